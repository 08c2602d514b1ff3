/- Laws and walks that the proof of the statement is made of (part 5). -/
import Derived.Test.YtedoaagdhcimiaaGreatProg
import Derived.Test.YtedoaagdhcimiaaGreatShelf
import Derived.OwnWalk
import Derived.Lib.Hide
import Derived.Shelf.RegionOpenPlain
import Derived.Lib.Strings
import Derived.Lib.Slices
import Derived.Lib.Walk
import Derived.Lib.Builder
import Derived.Lib.AppendStr
import Derived.Lib.UnsafeStr
import Derived.Lib.MakeNoZero
import Derived.WalkKit
import Derived.Laws.Externs
import Derived.Laws.IdiomCopy
import Derived.Laws.BitsLemmas
import GoSem.Claims
import Derived.Test.YtedoaagdhcimiaaGreatP1
import Derived.Test.YtedoaagdhcimiaaGreatP2
import Derived.Test.YtedoaagdhcimiaaGreatP3
import Derived.Test.YtedoaagdhcimiaaGreatP4
set_option linter.unusedSimpArgs false
set_option linter.unusedVariables false
namespace Go.Proofs.X
open Go.RowKit
set_option maxRecDepth 100000
def soaNums (s : SoaR) : List Int := [s.refresh, s.retry, s.expire, s.minimum]
def soaBase (s : SoaR) : List UInt8 := s.main ++ [0] ++ (s.mail ++ [0]) ++ be4 s.serial.toNat
def be4s (l : List Int) : List UInt8 := (l.map fun n => be4 n.toNat).flatten
theorem soa_data (s : SoaR) : s.data = soaBase s ++ be4s (soaNums s) := by simp [SoaR.data, soaBase, be4s, soaNums]
theorem be4s_succ (l : List Int) (k : Nat) (h : k < l.length) : be4s (l.take (k + 1)) = be4s (l.take k) ++ be4 l[k].toNat := by
 unfold be4s
 rw [List.take_add_one, List.getElem?_eq_getElem h, Option.toList_some, List.map_append, List.flatten_append]
 simp
theorem be4s_len (l : List Int) : (be4s l).length = 4 * l.length := by
 induction l with
 | nil => rfl
 | cons x l ih =>
  have : be4s (x :: l) = be4 x.toNat ++ be4s l := by simp [be4s]
  rw [this, List.length_append, ih, List.length_cons]
  simp [be4]; omega
theorem soa_ok (s : SoaR) : s.ok = ((labels s.main).isSome && (labels s.mail).isSome && decide (0 ≤ s.serial) && decide (s.serial ≤ 4294967295) && (soaNums s).all ttlOk) := by
 simp [SoaR.ok, soaNums, Bool.and_assoc]
set_option maxHeartbeats 1000000 in
theorem t70 (s : SoaR) (w : World) (h1 : s.main.length ≤ 4611686018427387904) (h2 : s.mail.length ≤ 4611686018427387904) : Calls Tryz.prog 151 #[.agg s.cells.toArray] w (RetV w (if s.ok = true then .tuple #[str s.data, .int .i64 0] else .tuple #[str [], .int .i64 1])) := by
 have hA := fun w => t87 s.main w (by omega)
 have hB := fun w => t87 s.mail w (by omega)
 cases hm : labels s.main with
 | none =>
  simp only [hm, Option.isSome_none, Bool.false_eq_true, if_false] at hA
  have hno : s.ok = false := by simp [SoaR.ok, hm]
  rw [hno]
  go_enter Tryz.func151, Tryz.ntmps151
  repeat' (first | ((with_reducible refine nx0 ?_); go_step) | fail)
  refine wpl_box (vs := s.cells) rfl rfl ?_
  intro p w1 x1 hp
  refine gset ?_
  have hp' : Pts w1 p [str s.main, str s.mail, .int .i64 s.serial, .int .i64 s.refresh, .int .i64 s.retry, .int .i64 s.expire, .int .i64 s.minimum] := hp
  (repeat' first | ((with_reducible refine nx0 ?_); go_step) | ((with_reducible refine o_s ?_); first | refine wk0 ?_ | (refine wg0 ?_ ?_ <;> intro hc)) | fail)
  refine wpl_callV (enters_of Tryz.func200 rfl rfl) rfl rfl (hA _) ?_
  intro w2 x2
  have hp' := hp'.ext x2
  (repeat' first | ((with_reducible refine nx0 ?_); go_step) | ((with_reducible refine o_s ?_); first | refine wk0 ?_ | (refine wg0 ?_ ?_ <;> intro hc)) | fail)
  refine wpl_callV (enters_of Tryz.func200 rfl rfl) rfl rfl (hB _) ?_
  intro w3 x3
  cases hl : (labels s.mail).isSome with
  | true =>
   simp only [hl, if_true]
   have hp' := hp'.ext x3
   (repeat' first | ((with_reducible refine nx0 ?_); go_step) | ((with_reducible refine o_s ?_); first | refine wk0 ?_ | (refine wg0 ?_ ?_ <;> intro hc)) | fail)
   go_ret2
   exact ⟨rfl, (x1.trans x2).trans x3⟩
  | false =>
   simp only [hl, Bool.false_eq_true, if_false]
   have hp' := hp'.ext x3
   (repeat' first | ((with_reducible refine nx0 ?_); go_step) | ((with_reducible refine o_s ?_); first | refine wk0 ?_ | (refine wg0 ?_ ?_ <;> intro hc)) | fail)
   go_ret2
   exact ⟨rfl, (x1.trans x2).trans x3⟩
 | some ls =>
  simp only [hm, Option.isSome_some, if_true] at hA
  cases hm2 : labels s.mail with
  | none =>
   simp only [hm2, Option.isSome_none, Bool.false_eq_true, if_false] at hB
   have hno : s.ok = false := by simp [SoaR.ok, hm2]
   rw [hno]
   go_enter Tryz.func151, Tryz.ntmps151
   repeat' (first | ((with_reducible refine nx0 ?_); go_step) | fail)
   refine wpl_box (vs := s.cells) rfl rfl ?_
   intro p w1 x1 hp
   refine gset ?_
   have hp' : Pts w1 p [str s.main, str s.mail, .int .i64 s.serial, .int .i64 s.refresh, .int .i64 s.retry, .int .i64 s.expire, .int .i64 s.minimum] := hp
   (repeat' first | ((with_reducible refine nx0 ?_); go_step) | ((with_reducible refine o_s ?_); first | refine wk0 ?_ | (refine wg0 ?_ ?_ <;> intro hc)) | fail)
   refine wpl_callV (enters_of Tryz.func200 rfl rfl) rfl rfl (hA _) ?_
   intro w2 x2
   have hp' := hp'.ext x2
   (repeat' first | ((with_reducible refine nx0 ?_); go_step) | ((with_reducible refine o_s ?_); first | refine wk0 ?_ | (refine wg0 ?_ ?_ <;> intro hc)) | fail)
   refine wpl_callV (enters_of Tryz.func200 rfl rfl) rfl rfl (hB _) ?_
   intro w3 x3
   have hp' := hp'.ext x3
   (repeat' first | ((with_reducible refine nx0 ?_); go_step) | ((with_reducible refine o_s ?_); first | refine wk0 ?_ | (refine wg0 ?_ ?_ <;> intro hc)) | fail)
   go_ret2
   exact ⟨rfl, (x1.trans x2).trans x3⟩
  | some ms =>
   simp only [hm2, Option.isSome_some, if_true] at hB
   have hfm := labels_fit hm
   have hfm2 := labels_fit hm2
   rw [soa_ok, hm, hm2]
   simp only [Option.isSome_some, Bool.true_and]
   go_enter Tryz.func151, Tryz.ntmps151
   repeat' (first | ((with_reducible refine nx0 ?_); go_step) | fail)
   refine wpl_box (vs := s.cells) rfl rfl ?_
   intro p w1 x1 hp
   refine gset ?_
   have hp' : Pts w1 p [str s.main, str s.mail, .int .i64 s.serial, .int .i64 s.refresh, .int .i64 s.retry, .int .i64 s.expire, .int .i64 s.minimum] := hp
   (repeat' first | ((with_reducible refine nx0 ?_); go_step) | ((with_reducible refine o_s ?_); first | refine wk0 ?_ | (refine wg0 ?_ ?_ <;> intro hc)) | fail)
   refine wpl_callV (enters_of Tryz.func200 rfl rfl) rfl rfl (hA _) ?_
   intro w2 x2
   have hp' := hp'.ext x2
   (repeat' first | ((with_reducible refine nx0 ?_); go_step) | ((with_reducible refine o_s ?_); first | refine wk0 ?_ | (refine wg0 ?_ ?_ <;> intro hc)) | fail)
   refine wpl_callV (enters_of Tryz.func200 rfl rfl) rfl rfl (hB _) ?_
   intro w3 x3
   have hp' := hp'.ext x3
   have x13 := (x1.trans x2).trans x3
   clear x1 x2 x3 hp hA hB
   (repeat' first | ((with_reducible refine nx0 ?_); go_step) | ((with_reducible refine o_s ?_); first | refine wk0 ?_ | (refine wg0 ?_ ?_ <;> intro hc)) | fail)
   ·have hc := ‹4294967295 < s.serial›
    go_ret2
    refine ⟨?_, x13⟩
    have hno : (decide (0 ≤ s.serial) && decide (s.serial ≤ 4294967295)) = false := by simp only [Bool.and_eq_false_iff, decide_eq_false_iff_not]; omega
    simp only [hno, Bool.false_and, Bool.false_eq_true, if_false]
    rfl
   ·have hc := ‹s.serial ≤ 4294967295›
    have hc0 := ‹¬s.serial < 0›
    have hser : (decide (0 ≤ s.serial) && decide (s.serial ≤ 4294967295)) = true := by simp; omega
    refine wpl_bytes (e := 5) (l := s.main ++ [0] ++ (s.mail ++ [0])) rfl rfl (by decide +kernel) (by decide +kernel) (by simp; omega) ?_
    intro v w4 x4 o4
    refine gset ?_
    have hp' := hp'.ext x4
    have hsn : s.serial = ((s.serial.toNat : Nat) : Int) := by omega
    (repeat' first | ((with_reducible refine nx0 ?_); go_step) | ((with_reducible refine o_s ?_); first | refine wk0 ?_ | (refine wg0 ?_ ?_ <;> intro hc)) | fail)
    rw [hsn]
    refine wpl_callG (enters_of Tryz.func201 rfl rfl) rfl rfl (t88 (B := w3.heap.size) s.serial.toNat o4 x4.size (by omega) (by simp; omega)) ?_
    rintro e w5 ⟨v5, rfl, o5, m5⟩
    refine ⟨_, rfl, ?_⟩
    refine gset ?_
    have x35 := o4.mvx m5 x4 (Nat.le_refl _)
    have hp' := ‹Pts w3 p _›.ext x35
    have x15 := x13.trans x35
    rw [← hsn]
    (repeat' first | ((with_reducible refine nx0 ?_); go_step) | ((with_reducible refine o_s ?_); first | refine wk0 ?_ | (refine wg0 ?_ ?_ <;> intro hc)) | fail)
    refine wpl_run (v := .agg ((soaNums s).map (Value.int .i64)).toArray) rfl (Runs.build rfl (by kernel_rfl)) ?_
    refine gset ?_
    (repeat' first | ((with_reducible refine nx0 ?_); go_step) | ((with_reducible refine o_s ?_); first | refine wk0 ?_ | (refine wg0 ?_ ?_ <;> intro hc)) | fail)
    clear hp' m5
    have hbase : s.main ++ [0] ++ (s.mail ++ [0]) ++ be4 s.serial.toNat = soaBase s := rfl
    rw [hbase] at o5
    have hbl : (soaBase s).length ≤ 600 := by simp [soaBase, be4]; omega
    go_loopw [8, 55] (fun v6 i wr => ∃ k : Nat, k ≤ 4 ∧ i = .int .i64 k ∧ Ext w wr ∧ w3.heap.size ≤ wr.heap.size ∧ Own w3.heap.size 1 5 wr v6 (bcells (soaBase s ++ be4s ((soaNums s).take k))) ∧ ((soaNums s).take k).all ttlOk = true) (fun _ i _ => 4 - (intOf i).toNat)
    case atStart => exact ⟨0, by omega, rfl, x15, x35.size, by simpa [be4s] using o5, rfl⟩
    case round =>
     obtain ⟨k, hk, rfl, hx, hsz, ho, hall⟩ := hrel
     have hlen : (soaNums s).length = 4 := rfl
     by_cases hlt : k < 4
     ·have hlt2 : k < (soaNums s).length := hlt
      have hdata : s.data = soaBase s ++ be4s (soaNums s) := soa_data s
      have hsplit : (soaNums s).all ttlOk = true → ttlOk (soaNums s)[k] = true := fun h => List.all_eq_true.1 h _ (List.getElem_mem hlt2)
      (repeat' first | ((with_reducible refine nx0 ?_); go_step) | ((with_reducible refine o_s ?_); first | refine wk0 ?_ | (refine wg0 ?_ ?_ <;> intro hc)) | fail)
      refine wpl_run (v := .int .i64 (soaNums s)[k]) rfl (Runs.idxA (n := 4) (i := k) rfl rfl (by simp [hlt2]) hlt (by decide +kernel)) ?_
      refine gset ?_
      (repeat' first | ((with_reducible refine nx0 ?_); go_step) | ((with_reducible refine o_s ?_); first | refine wk0 ?_ | (refine wg0 ?_ ?_ <;> intro hc)) | fail)
      ·have hc2 := ‹2147483647 < (soaNums s)[k]›
       go_ret2
       refine ⟨?_, hx⟩
       have hno : (soaNums s).all ttlOk = false := by
        cases h : (soaNums s).all ttlOk with
        | false => rfl
        | true => have := hsplit h; simp [ttlOk] at this; omega
       simp only [hser, hno, Bool.and_false, Bool.false_eq_true, if_false]
       rfl
      ·have hc2 := ‹(soaNums s)[k] ≤ 2147483647›
       have hc1 := ‹¬(soaNums s)[k] < 0›
       have hnn : (soaNums s)[k] = (((soaNums s)[k].toNat : Nat) : Int) := by omega
       have hbs : (be4s ((soaNums s).take k)).length ≤ 16 := by rw [be4s_len]; simp; omega
       rw [hnn]
       refine wpl_callG (enters_of Tryz.func201 rfl rfl) rfl rfl (t88 (B := w3.heap.size) (soaNums s)[k].toNat ho hsz (by omega) (by rw [List.length_append]; omega)) ?_
       rintro e w6 ⟨v6, rfl, o6, m6⟩
       refine ⟨_, rfl, ?_⟩
       refine gset ?_
       have hx6 := ho.mvx m6 hx x13.size
       have hs6 : w3.heap.size ≤ w6.heap.size := Nat.le_trans hsz m6.size
       rw [List.append_assoc, ← be4s_succ _ _ hlt2] at o6
       (repeat' first | ((with_reducible refine nx0 ?_); go_step) | ((with_reducible refine o_s ?_); first | refine wk0 ?_ | (refine wg0 ?_ ?_ <;> intro hc)) | fail)
       refine ⟨⟨k + 1, by omega, rfl, hx6, hs6, o6, ?_⟩, by simp [intOf]; omega⟩
       rw [List.take_add_one, List.getElem?_eq_getElem hlt2, Option.toList_some, List.all_append, hall]
       simp only [List.all_cons, List.all_nil, ttlOk, Bool.true_and, Bool.and_true, Bool.and_eq_true, decide_eq_true_eq]
       omega
      ·have hc2 := ‹(soaNums s)[k] < 0›
       go_ret2
       refine ⟨?_, hx⟩
       have hno : (soaNums s).all ttlOk = false := by
        cases h : (soaNums s).all ttlOk with
        | false => rfl
        | true => have := hsplit h; simp [ttlOk] at this; omega
       simp only [hser, hno, Bool.and_false, Bool.false_eq_true, if_false]
       rfl
     ·have : k = 4 := by omega
      subst this
      have hsl := ho.sl
      rw [show (soaNums s).take 4 = soaNums s from rfl] at hsl hall
      (repeat' first | ((with_reducible refine nx0 ?_); go_step) | ((with_reducible refine o_s ?_); first | refine wk0 ?_ | (refine wg0 ?_ ?_ <;> intro hc)) | fail)
      go_ret2
      refine ⟨?_, hx⟩
      simp only [hser, hall, Bool.and_self, if_true]
      rw [soa_data]
      rfl
   ·have hc := ‹s.serial < 0›
    go_ret2
    refine ⟨?_, x13⟩
    have hno : (decide (0 ≤ s.serial) && decide (s.serial ≤ 4294967295)) = false := by simp only [Bool.and_eq_false_iff, decide_eq_false_iff_not]; omega
    simp only [hno, Bool.false_and, Bool.false_eq_true, if_false]
    rfl
def zeroSoa : List Value := [str [], str [], .int .i64 0, .int .i64 0, .int .i64 0, .int .i64 0, .int .i64 0]
theorem firstN_len (s : List UInt8) : (firstN s).1.length ≤ s.length ∧ (firstN s).2.1.length ≤ s.length := by
 unfold firstN
 split
 ·simp
 ·refine ⟨?_, by simp⟩
  unfold hostN
  split
  ·simp only [Option.getD_some]
   have : (Lib.trimSuffix (s.take (walkN s + 1)) [0]).length ≤ (s.take (walkN s + 1)).length := Lib.trimSuffix_le _ _
   simp at this ⊢
   omega
  ·simp
set_option maxHeartbeats 1000000 in
theorem t38 (d : List UInt8) (w : World) (hl : d.length ≤ 4611686018427387904) : Calls Tryz.prog 88 #[str d] w (RetV w (match parseSoa d with | some s => .tuple #[.agg s.cells.toArray, .int .i64 0] | none => .tuple #[.agg zeroSoa.toArray, .int .i64 2])) := by
 have hl1 := firstN_len d
 have hl2 := firstN_len (firstN d).2.1
 go_enter Tryz.func88, Tryz.ntmps88
 repeat' (first | ((with_reducible refine nx0 ?_); go_step) | fail)
 refine wpl_allocB (z := zeroSoa) rfl (by decide +kernel) ?_
 intro w1 x1 s1 h1
 refine gset ?_
 (repeat' first | ((with_reducible refine nx0 ?_); go_step) | ((with_reducible refine o_s ?_); first | refine wk0 ?_ | (refine wg0 ?_ ?_ <;> intro hc)) | fail)
 refine wpl_callV (enters_of Tryz.func149 rfl rfl) rfl rfl (t68 d _ hl) ?_
 intro w2 x2
 refine gset ?_
 have h12 := x2.at h1
 (repeat' first | ((with_reducible refine nx0 ?_); go_step) | ((with_reducible refine o_s ?_); first | refine wk0 ?_ | (refine wg0 ?_ ?_ <;> intro hc)) | fail)
 refine wpl_allocB (z := [str []]) rfl (by decide +kernel) ?_
 intro w3 x3 s3 h3
 refine gset ?_
 have h13 := x3.at h12
 (repeat' first | ((with_reducible refine nx0 ?_); go_step) | ((with_reducible refine o_s ?_); first | refine wk0 ?_ | (refine wg0 ?_ ?_ <;> intro hc)) | fail)
 refine wpl_store1 (v := str (firstN d).2.1) rfl rfl rfl h3 (by decide +kernel) rfl ?_
 intro w4 p4
 have s2 : w.heap.size < w2.heap.size := by have := x2.size; omega
 have h14 := p4.at h13 (by omega)
 have h54 := p4.this
 have x4 : Ext w w4 := ((x1.trans x2).trans x3).move p4.mv (by rintro k ⟨⟩; omega)
 have hp5 := pts_block (cs := [str (firstN d).2.1]) h54
 generalize hb5 : w2.heap.size = b5 at *
 clear h1 h12 h13 h3 p4 x1 x2 x3 s3
 (repeat' first | ((with_reducible refine nx0 ?_); go_step) | ((with_reducible refine o_s ?_); first | refine wk0 ?_ | (refine wg0 ?_ ?_ <;> intro hc)) | fail)
 refine wpl_callV (enters_of Tryz.func149 rfl rfl) rfl rfl (t68 _ _ (by omega)) ?_
 intro w5 x5
 refine gset ?_
 have h15 := x5.at h14
 have h55 := x5.at h54
 have hp5 := hp5.ext x5
 have x5 := x4.trans x5
 (repeat' first | ((with_reducible refine nx0 ?_); go_step) | ((with_reducible refine o_s ?_); first | refine wk0 ?_ | (refine wg0 ?_ ?_ <;> intro hc)) | fail)
 refine wpl_store1 (v := str (firstN (firstN d).2.1).2.1) rfl rfl rfl h55 (by decide +kernel) rfl ?_
 intro w6 p6
 have h16 := p6.at h15 (by omega)
 have h56 := p6.this
 have x6 : Ext w w6 := x5.move p6.mv (by rintro k ⟨⟩; omega)
 clear hp5 h54 h14 h15 h55 p6 x4 x5
 have hp5 := pts_block (cs := [str (firstN (firstN d).2.1).2.1]) h56
 (repeat' first | ((with_reducible refine nx0 ?_); go_step) | ((with_reducible refine o_s ?_); first | refine wk0 ?_ | (refine wg0 ?_ ?_ <;> intro hc)) | fail)
 ·refine wpl_run (v := .agg zeroSoa.toArray) rfl (Runs.build (parts := []) (vals := []) rfl (by kernel_rfl)) ?_
  refine gset ?_
  refine wpl_storeB (v := .agg zeroSoa.toArray) rfl rfl rfl h16 (by decide +kernel) rfl (by decide +kernel) ?_
  intro w7 p7
  have x7 : Ext w w7 := x6.move p7.mv (by rintro k ⟨⟩; omega)
  have h17 : w7.heap[w.heap.size]? = some (.cells zeroSoa.toArray 61 (0, 0)) := p7.this
  (repeat' first | ((with_reducible refine nx0 ?_); go_step) | ((with_reducible refine o_s ?_); first | refine wk0 ?_ | (refine wg0 ?_ ?_ <;> intro hc)) | fail)
  refine bodyPost_ret (results_cellT (cs := zeroSoa) rfl rfl h17 (by decide +kernel)) rfl ⟨?_, x7⟩
  have hno : parseSoa d = none := by
   unfold parseSoa
   rw [if_neg]
   rintro ⟨q1, q2, q3, q4⟩
   have := ‹(!decide (((firstN (firstN d).2.1).2.1.length : Int) = 20)) = true›
   simp [q3] at this
  rw [hno]
  rfl
 ·have hc1 := ‹(!(firstN d).2.2) = false›
  have hc2 := ‹(!(firstN (firstN d).2.1).2.2) = false›
  have hc3 := ‹(!decide (((firstN (firstN d).2.1).2.1.length : Int) = 20)) = false›
  have hr : (firstN (firstN d).2.1).2.1.length = 20 := by simp at hc3; omega
  have q1 : (firstN d).2.2 = true := by simpa using hc1
  have q2 : (firstN (firstN d).2.1).2.2 = true := by simpa using hc2
  have hps : parseSoa d = if (soaOf d).ok = true then some (soaOf d) else none := by
   unfold parseSoa
   simp only [q1, q2, hr, true_and]
  generalize hrr : (firstN (firstN d).2.1).2.1 = r at *
  refine wpl_callT (f := 150) (caps := #[.pointer (some ⟨b5, 0, none⟩)]) (enters_of Tryz.func150 rfl rfl) rfl rfl rfl (t69 r 0 _ _ hp5 hr (by omega)) ?_
  rintro e w10 ⟨rfl, y⟩
  refine ⟨_, rfl, ?_⟩
  refine gset ?_
  have hp5 := hp5.ext y
  have h16 := y.at h16
  have x6 := x6.trans y
  clear y
  (repeat' first | ((with_reducible refine nx0 ?_); go_step) | ((with_reducible refine o_s ?_); first | refine wk0 ?_ | (refine wg0 ?_ ?_ <;> intro hc)) | fail)
  refine wpl_callT (f := 150) (caps := #[.pointer (some ⟨b5, 0, none⟩)]) (enters_of Tryz.func150 rfl rfl) rfl rfl rfl (t69 r 1 _ _ hp5 hr (by omega)) ?_
  rintro e w11 ⟨rfl, y⟩
  refine ⟨_, rfl, ?_⟩
  refine gset ?_
  have hp5 := hp5.ext y
  have h16 := y.at h16
  have x6 := x6.trans y
  clear y
  (repeat' first | ((with_reducible refine nx0 ?_); go_step) | ((with_reducible refine o_s ?_); first | refine wk0 ?_ | (refine wg0 ?_ ?_ <;> intro hc)) | fail)
  refine wpl_callT (f := 150) (caps := #[.pointer (some ⟨b5, 0, none⟩)]) (enters_of Tryz.func150 rfl rfl) rfl rfl rfl (t69 r 2 _ _ hp5 hr (by omega)) ?_
  rintro e w12 ⟨rfl, y⟩
  refine ⟨_, rfl, ?_⟩
  refine gset ?_
  have hp5 := hp5.ext y
  have h16 := y.at h16
  have x6 := x6.trans y
  clear y
  (repeat' first | ((with_reducible refine nx0 ?_); go_step) | ((with_reducible refine o_s ?_); first | refine wk0 ?_ | (refine wg0 ?_ ?_ <;> intro hc)) | fail)
  refine wpl_callT (f := 150) (caps := #[.pointer (some ⟨b5, 0, none⟩)]) (enters_of Tryz.func150 rfl rfl) rfl rfl rfl (t69 r 3 _ _ hp5 hr (by omega)) ?_
  rintro e w13 ⟨rfl, y⟩
  refine ⟨_, rfl, ?_⟩
  refine gset ?_
  have hp5 := hp5.ext y
  have h16 := y.at h16
  have x6 := x6.trans y
  clear y
  (repeat' first | ((with_reducible refine nx0 ?_); go_step) | ((with_reducible refine o_s ?_); first | refine wk0 ?_ | (refine wg0 ?_ ?_ <;> intro hc)) | fail)
  refine wpl_callT (f := 150) (caps := #[.pointer (some ⟨b5, 0, none⟩)]) (enters_of Tryz.func150 rfl rfl) rfl rfl rfl (t69 r 4 _ _ hp5 hr (by omega)) ?_
  rintro e w14 ⟨rfl, y⟩
  refine ⟨_, rfl, ?_⟩
  refine gset ?_
  have hp5 := hp5.ext y
  have h16 := y.at h16
  have x6 := x6.trans y
  clear y
  (repeat' first | ((with_reducible refine nx0 ?_); go_step) | ((with_reducible refine o_s ?_); first | refine wk0 ?_ | (refine wg0 ?_ ?_ <;> intro hc)) | fail)
  have hsc : (soaOf d).cells = [str (firstN d).1, str (firstN (firstN d).2.1).1, .int .i64 (numP r 0 4 : Nat), .int .i64 (numP r 1 4 : Nat), .int .i64 (numP r 2 4 : Nat), .int .i64 (numP r 3 4 : Nat), .int .i64 (numP r 4 4 : Nat)] := by
   simp only [SoaR.cells, soaOf, hrr]
  refine wpl_run (v := .agg (soaOf d).cells.toArray) rfl (by rw [hsc]; exact Runs.build rfl (by kernel_rfl)) ?_
  refine gset ?_
  refine wpl_allocB (z := zeroSoa) rfl (by decide +kernel) ?_
  intro w15 x15 s15 h15
  refine gset ?_
  have h16 := x15.at h16
  have x6 := x6.trans x15
  have hlt16 : w.heap.size < w14.heap.size := (Array.getElem?_eq_some_iff.1 ‹w14.heap[w.heap.size]? = _›).1
  refine wpl_storeB (v := .agg (soaOf d).cells.toArray) rfl rfl rfl h15 (show sizeTy Tryz.prog 61 7 = true by decide +kernel) rfl (by rw [hsc]; simp [Value.cells, Value.oneCell', str]) ?_
  intro w16 p16
  have h16 := p16.at h16 (by omega)
  have x6 := x6.move p16.mv (by rintro k ⟨⟩; omega)
  have hb10 : w16.heap[w14.heap.size]? = some (.cells (soaOf d).cells.toArray 61 (0, 0)) := p16.this
  have hp10 := pts_block hb10
  (repeat' first | ((with_reducible refine nx0 ?_); go_step) | ((with_reducible refine o_s ?_); first | refine wk0 ?_ | (refine wg0 ?_ ?_ <;> intro hc)) | fail)
  refine wpl_run (v := .agg (soaOf d).cells.toArray) rfl (Runs.loadN (n := 7) hp10 rfl (by decide +kernel)) ?_
  refine gset ?_
  have hm1 : (soaOf d).main.length ≤ 4611686018427387904 := by simp only [soaOf]; omega
  have hm2 : (soaOf d).mail.length ≤ 4611686018427387904 := by simp only [soaOf]; omega
  refine wpl_callV (enters_of Tryz.func151 rfl rfl) rfl rfl (t70 (soaOf d) _ hm1 hm2) ?_
  intro w17 x17
  refine gset ?_
  have h16 := x17.at h16
  have hb10 := x17.at hb10
  have x6 := x6.trans x17
  have hp10 := hp10.ext x17
  cases hok : (soaOf d).ok with
  | false =>
   simp only [hok, Bool.false_eq_true, if_false] at hps ⊢
   (repeat' first | ((with_reducible refine nx0 ?_); go_step) | ((with_reducible refine o_s ?_); first | refine wk0 ?_ | (refine wg0 ?_ ?_ <;> intro hc)) | fail)
   refine wpl_run (v := .agg zeroSoa.toArray) rfl (Runs.build (parts := []) (vals := []) rfl (by kernel_rfl)) ?_
   refine gset ?_
   refine wpl_storeB (v := .agg zeroSoa.toArray) rfl rfl rfl h16 (by decide +kernel) rfl (by decide +kernel) ?_
   intro w7 p7
   have x7 : Ext w w7 := x6.move p7.mv (by rintro k ⟨⟩; omega)
   have h17 : w7.heap[w.heap.size]? = some (.cells zeroSoa.toArray 61 (0, 0)) := p7.this
   (repeat' first | ((with_reducible refine nx0 ?_); go_step) | ((with_reducible refine o_s ?_); first | refine wk0 ?_ | (refine wg0 ?_ ?_ <;> intro hc)) | fail)
   refine bodyPost_ret (results_cellT (cs := zeroSoa) rfl rfl h17 (by decide +kernel)) rfl ⟨?_, x7⟩
   rw [hps]
   rfl
  | true =>
   simp only [hok, if_true] at hps ⊢
   (repeat' first | ((with_reducible refine nx0 ?_); go_step) | ((with_reducible refine o_s ?_); first | refine wk0 ?_ | (refine wg0 ?_ ?_ <;> intro hc)) | fail)
   refine wpl_run (v := .agg (soaOf d).cells.toArray) rfl (Runs.loadN (n := 7) hp10 rfl (by decide +kernel)) ?_
   refine gset ?_
   refine wpl_storeB (v := .agg (soaOf d).cells.toArray) rfl rfl rfl h16 (show sizeTy Tryz.prog 61 7 = true by decide +kernel) rfl (by rw [hsc]; simp [Value.cells, Value.oneCell', str]) ?_
   intro w7 p7
   have x7 : Ext w w7 := x6.move p7.mv (by rintro k ⟨⟩; omega)
   have h17 : w7.heap[w.heap.size]? = some (.cells (soaOf d).cells.toArray 61 (0, 0)) := p7.this
   (repeat' first | ((with_reducible refine nx0 ?_); go_step) | ((with_reducible refine o_s ?_); first | refine wk0 ?_ | (refine wg0 ?_ ?_ <;> intro hc)) | fail)
   refine bodyPost_ret (results_cellT (cs := (soaOf d).cells) rfl rfl h17 (show aggTy Tryz.prog 61 7 = true by decide +kernel)) rfl ⟨?_, x7⟩
   rw [hps]
   rfl
 ·refine wpl_run (v := .agg zeroSoa.toArray) rfl (Runs.build (parts := []) (vals := []) rfl (by kernel_rfl)) ?_
  refine gset ?_
  refine wpl_storeB (v := .agg zeroSoa.toArray) rfl rfl rfl h16 (by decide +kernel) rfl (by decide +kernel) ?_
  intro w7 p7
  have x7 : Ext w w7 := x6.move p7.mv (by rintro k ⟨⟩; omega)
  have h17 : w7.heap[w.heap.size]? = some (.cells zeroSoa.toArray 61 (0, 0)) := p7.this
  (repeat' first | ((with_reducible refine nx0 ?_); go_step) | ((with_reducible refine o_s ?_); first | refine wk0 ?_ | (refine wg0 ?_ ?_ <;> intro hc)) | fail)
  refine bodyPost_ret (results_cellT (cs := zeroSoa) rfl rfl h17 (by decide +kernel)) rfl ⟨?_, x7⟩
  have hno : parseSoa d = none := by
   unfold parseSoa
   rw [if_neg]
   rintro ⟨q1, q2, q3, q4⟩
   have := ‹(!(firstN (firstN d).2.1).2.2) = true›
   simp [q2] at this
  rw [hno]
  rfl
 ·refine wpl_run (v := .agg zeroSoa.toArray) rfl (Runs.build (parts := []) (vals := []) rfl (by kernel_rfl)) ?_
  refine gset ?_
  refine wpl_storeB (v := .agg zeroSoa.toArray) rfl rfl rfl h16 (by decide +kernel) rfl (by decide +kernel) ?_
  intro w7 p7
  have x7 : Ext w w7 := x6.move p7.mv (by rintro k ⟨⟩; omega)
  have h17 : w7.heap[w.heap.size]? = some (.cells zeroSoa.toArray 61 (0, 0)) := p7.this
  (repeat' first | ((with_reducible refine nx0 ?_); go_step) | ((with_reducible refine o_s ?_); first | refine wk0 ?_ | (refine wg0 ?_ ?_ <;> intro hc)) | fail)
  refine bodyPost_ret (results_cellT (cs := zeroSoa) rfl rfl h17 (by decide +kernel)) rfl ⟨?_, x7⟩
  have hno : parseSoa d = none := by
   unfold parseSoa
   rw [if_neg]
   rintro ⟨q1, q2, q3, q4⟩
   have := ‹(!(firstN d).2.2) = true›
   simp [q1] at this
  rw [hno]
  rfl
set_option maxHeartbeats 1000000 in
theorem t26 (k : Int) (d : List UInt8) (w : World) (hl : d.length ≤ 4000) : Calls Tryz.prog 166 #[.int .i64 k, str d] w (RetV w (.bool (fits k d))) := by
 have h38 := fun w => t38 d w (by omega)
 go_enter Tryz.func166, Tryz.ntmps166
 (repeat' first | ((with_reducible refine nx0 ?_); go_step) | ((with_reducible refine o_s ?_); first | refine wk0 ?_ | (refine wg0 ?_ ?_ <;> intro hc)) | fail)
 ·have h1 := ‹k = 1›
  go_ret
  refine ⟨?_, Ext.refl _⟩
  rw [fits, if_pos h1]
  have e : decide ((d.length : Int) = 4) = decide (d.length = 4) := by apply decide_eq_decide.2; omega
  exact congrArg (fun b => Ending.returned (Value.bool b)) e
 ·have h1 := ‹¬k = 1›
  have h2 := ‹k = 28›
  go_ret
  refine ⟨?_, Ext.refl _⟩
  rw [fits, if_neg h1, if_pos h2]
  have e : decide ((d.length : Int) = 16) = decide (d.length = 16) := by apply decide_eq_decide.2; omega
  exact congrArg (fun b => Ending.returned (Value.bool b)) e
 ·have h1 := ‹¬k = 1›
  have h2 := ‹¬k = 28›
  have h3 := ‹k = 16›
  refine wpl_callV (enters_of Tryz.func212 rfl rfl) rfl rfl (t37 _ _ (by omega)) ?_
  intro w2 x2
  refine gset ?_
  (repeat' first | ((with_reducible refine nx0 ?_); go_step) | ((with_reducible refine o_s ?_); first | refine wk0 ?_ | (refine wg0 ?_ ?_ <;> intro hc)) | fail)
  go_ret
  refine ⟨?_, x2⟩
  rw [fits, if_neg h1, if_neg h2, if_pos h3]
  rfl
 ·have h1 := ‹¬k = 1›
  have h2 := ‹¬k = 28›
  have h3 := ‹¬k = 16›
  have h4 := ‹k = 6›
  have hF : fits k d = (parseSoa d).isSome := by rw [fits, if_neg h1, if_neg h2, if_neg h3, if_pos h4]
  refine wpl_callV (enters_of Tryz.func88 rfl rfl) rfl rfl (h38 _) ?_
  intro w2 x2
  refine gset ?_
  cases hp : parseSoa d with
  | none =>
   simp only [hp] at hF
   (repeat' first | ((with_reducible refine nx0 ?_); go_step) | ((with_reducible refine o_s ?_); first | refine wk0 ?_ | (refine wg0 ?_ ?_ <;> intro hc)) | fail)
   refine wpl_allocB (z := zeroSoa) rfl (by decide +kernel) ?_
   intro w3 x3 s3 h3b
   refine gset ?_
   refine wpl_storeB (v := .agg zeroSoa.toArray) rfl rfl rfl h3b (by decide +kernel) rfl (by decide +kernel) ?_
   intro w4 p4
   (repeat' first | ((with_reducible refine nx0 ?_); go_step) | ((with_reducible refine o_s ?_); first | refine wk0 ?_ | (refine wg0 ?_ ?_ <;> intro hc)) | fail)
   go_ret
   refine ⟨?_, (x2.trans x3).move p4.mv (by rintro k ⟨⟩; exact x2.size)⟩
   rw [hF]
   rfl
  | some s =>
   simp only [hp] at hF
   have hsc : ∀ s : SoaR, s.cells = [str s.main, str s.mail, .int .i64 s.serial, .int .i64 s.refresh, .int .i64 s.retry, .int .i64 s.expire, .int .i64 s.minimum] := fun _ => rfl
   (repeat' first | ((with_reducible refine nx0 ?_); go_step) | ((with_reducible refine o_s ?_); first | refine wk0 ?_ | (refine wg0 ?_ ?_ <;> intro hc)) | fail)
   refine wpl_allocB (z := zeroSoa) rfl (by decide +kernel) ?_
   intro w3 x3 s3 h3b
   refine gset ?_
   refine wpl_storeB (v := .agg s.cells.toArray) rfl rfl rfl h3b (show sizeTy Tryz.prog 61 7 = true by decide +kernel) rfl (by rw [hsc]; simp [Value.cells, Value.oneCell', str]) ?_
   intro w4 p4
   (repeat' first | ((with_reducible refine nx0 ?_); go_step) | ((with_reducible refine o_s ?_); first | refine wk0 ?_ | (refine wg0 ?_ ?_ <;> intro hc)) | fail)
   go_ret
   refine ⟨?_, (x2.trans x3).move p4.mv (by rintro k ⟨⟩; exact x2.size)⟩
   rw [hF]
   rfl
 ·have h1 := ‹¬k = 1›
  have h2 := ‹¬k = 28›
  have h3 := ‹¬k = 16›
  have h4 := ‹¬k = 6›
  refine wpl_callV (enters_of Tryz.func213 rfl rfl) rfl rfl (t39 k d _ (by omega)) ?_
  intro w2 x2
  refine gset ?_
  (repeat' first | ((with_reducible refine nx0 ?_); go_step) | ((with_reducible refine o_s ?_); first | refine wk0 ?_ | (refine wg0 ?_ ?_ <;> intro hc)) | fail)
  go_ret
  refine ⟨?_, x2⟩
  rw [fits, if_neg h1, if_neg h2, if_neg h3, if_neg h4]
  simp
set_option maxHeartbeats 20000000 in
theorem t16 (r : Rec) (w : World) : Calls Tryz.prog 108 #[.agg #[str r.name, .int .i64 r.kind, .int .i64 r.ttl, str r.data]] w (RetV w (.int .i64 (checkR r))) := by
 have hf : r.data.length ≤ 4000 → ∀ w, Calls Tryz.prog 166 #[.int .i64 r.kind, str r.data] w (RetV w (.bool (fits r.kind r.data))) := fun h w => t26 _ _ w h
 go_enter Tryz.func108, Tryz.ntmps108
 repeat' (first | ((with_reducible refine nx0 ?_); go_step) | fail)
 refine wpl_box (vs := [str r.name, .int .i64 r.kind, .int .i64 r.ttl, str r.data]) rfl rfl ?_
 intro p w1 x1 hp
 refine gset ?_
 (repeat' first | ((with_reducible refine nx0 ?_); go_step) | ((with_reducible refine o_s ?_); refine wk0 ?_) | fail)
 all_goals try (go_ret; refine ⟨?_, x1⟩; first | (rw [checkR, if_pos (by omega)]; rfl) | (rw [checkR, if_neg (by omega), if_pos (by omega)]; rfl))
 ((with_reducible refine o_s ?_); refine o_g ?_; ((first | refine o_G ?_ ?_ | refine o_N ?_ ?_) <;> intro hc))
 all_goals (repeat' first | ((with_reducible refine nx0 ?_); go_step) | ((with_reducible refine o_s ?_); refine wk0 ?_) | fail)
 all_goals try (go_ret; refine ⟨?_, x1⟩; first | (rw [checkR, if_pos (by omega)]; rfl) | (rw [checkR, if_neg (by omega), if_pos (by omega)]; rfl))
 ((with_reducible refine o_s ?_); refine o_g ?_; ((first | refine o_G ?_ ?_ | refine o_N ?_ ?_) <;> intro hc))
 all_goals (repeat' first | ((with_reducible refine nx0 ?_); go_step) | ((with_reducible refine o_s ?_); refine wk0 ?_) | fail)
 all_goals try (go_ret; refine ⟨?_, x1⟩; first | (rw [checkR, if_pos (by omega)]; rfl) | (rw [checkR, if_neg (by omega), if_pos (by omega)]; rfl))
 ((with_reducible refine o_s ?_); refine o_g ?_; ((first | refine o_G ?_ ?_ | refine o_N ?_ ?_) <;> intro hc))
 all_goals (repeat' first | ((with_reducible refine nx0 ?_); go_step) | ((with_reducible refine o_s ?_); refine wk0 ?_) | fail)
 all_goals try (go_ret; refine ⟨?_, x1⟩; first | (rw [checkR, if_pos (by omega)]; rfl) | (rw [checkR, if_neg (by omega), if_pos (by omega)]; rfl))
 ((with_reducible refine o_s ?_); refine o_g ?_; ((first | refine o_G ?_ ?_ | refine o_N ?_ ?_) <;> intro hc))
 all_goals (repeat' first | ((with_reducible refine nx0 ?_); go_step) | ((with_reducible refine o_s ?_); refine wk0 ?_) | fail)
 all_goals try (go_ret; refine ⟨?_, x1⟩; first | (rw [checkR, if_pos (by omega)]; rfl) | (rw [checkR, if_neg (by omega), if_pos (by omega)]; rfl))
 (apply wpl_guard; (rfl)) <;> intro hc
 ·have hlen : r.data.length ≤ 4000 := by simp at hc; omega
  rw [hc]
  (repeat' first | ((with_reducible refine nx0 ?_); go_step) | ((with_reducible refine o_s ?_); refine wk0 ?_) | fail)
  refine wpl_callV (enters_of Tryz.func166 rfl rfl) rfl rfl (hf hlen _) ?_
  intro w2 x2
  refine gset ?_
  have hp := hp.ext x2
  cases hfit : fits r.kind r.data with
  | true =>
   (repeat' first | ((with_reducible refine nx0 ?_); go_step) | ((with_reducible refine o_s ?_); refine wk0 ?_) | fail)
   refine wpl_callV (enters_of Tryz.func63 rfl rfl) rfl rfl (t27 _ _) ?_
   intro w3 x3
   refine gset ?_
   (repeat' first | ((with_reducible refine nx0 ?_); go_step) | ((with_reducible refine o_s ?_); refine wk0 ?_) | fail)
   go_ret
   refine ⟨?_, (x1.trans x2).trans x3⟩
   have e : checkR r = if (labels r.name).isSome = true then 0 else 1 := by
    rw [checkR, if_neg (by omega), if_neg (by rw [hfit]; simp; omega)]
   rw [e]
   rfl
  | false =>
   (repeat' first | ((with_reducible refine nx0 ?_); go_step) | ((with_reducible refine o_s ?_); refine wk0 ?_) | fail)
   go_ret
   refine ⟨?_, x1.trans x2⟩
   rw [checkR, if_neg (by omega), if_pos (by rw [hfit]; simp)]
   rfl
 ·have hc4 : 4000 < r.data.length := by simp at hc; omega
  rw [hc]
  simp only [Act.put, List.setIfInBounds_toArray, List.set_cons_succ, List.set_cons_zero, Bool.not_true, Bool.not_false]
  (repeat' first | ((with_reducible refine nx0 ?_); go_step) | ((with_reducible refine o_s ?_); refine wk0 ?_) | fail)
  go_ret
  refine ⟨?_, x1⟩
  rw [checkR, if_neg (by omega), if_pos (by omega)]
  rfl
set_option maxHeartbeats 1000000 in
theorem t15 (a b : RSet) (u v : Value) (w : World) (hu : Sl 1 w u (tcells a.data)) (hv : Sl 1 w v (tcells b.data)) : Calls Tryz.prog 137 #[.agg #[str a.name, .int .i64 a.kind, .int .i64 a.ttl, u], .agg #[str b.name, .int .i64 b.kind, .int .i64 b.ttl, v]] w (RetV w (.bool (decide (a = b)))) := by
 have hab : a = b ↔ a.name = b.name ∧ a.kind = b.kind ∧ a.ttl = b.ttl ∧ a.data = b.data := by
  cases a; cases b; simp
 go_enter Tryz.func137, Tryz.ntmps137
 repeat' (first | ((with_reducible refine nx0 ?_); go_step) | fail)
 refine wpl_box (vs := [str a.name, .int .i64 a.kind, .int .i64 a.ttl, u]) rfl rfl ?_
 intro p w1 x1 hp
 refine gset ?_
 refine wpl_box (vs := [str b.name, .int .i64 b.kind, .int .i64 b.ttl, v]) rfl rfl ?_
 intro q w2 x2 hq
 refine gset ?_
 have hu2 := hu.ext (x1.trans x2)
 have hv2 := hv.ext (x1.trans x2)
 (repeat' first | ((with_reducible refine nx0 ?_); go_step) | ((with_reducible refine o_s ?_); first | refine wk0 ?_ | (refine wg0 ?_ ?_ <;> intro hc)) | fail)
 ·refine wpl_callV (enters_of Tryz.func194 rfl rfl) rfl rfl (t25 _ _ _ _ _ hu2 hv2) ?_; intro w3 x3; refine gset ?_
  (repeat' first | ((with_reducible refine nx0 ?_); go_step) | ((with_reducible refine o_s ?_); first | refine wk0 ?_ | (refine wg0 ?_ ?_ <;> intro hc)) | fail)
  go_ret
  refine ⟨?_, by exact extc⟩
  have : decide (a = b) = decide (a.data = b.data) := by
   apply decide_eq_decide.2
   rw [hab]
   simp only [‹a.name = b.name›, ‹a.kind = b.kind›, ‹a.ttl = b.ttl›, true_and]
  rw [this]
  rfl
 ·go_ret
  refine ⟨?_, by exact extc⟩
  have : ¬ a = b := by rw [hab]; have := ‹¬a.ttl = b.ttl›; simp [this]
  simp [this]
 ·go_ret
  refine ⟨?_, by exact extc⟩
  have : ¬ a = b := by rw [hab]; have := ‹¬a.kind = b.kind›; simp [this]
  simp [this]
 ·go_ret
  refine ⟨?_, by exact extc⟩
  have : ¬ a = b := by rw [hab]; have := ‹¬a.name = b.name›; simp [this]
  simp [this]
set_option maxHeartbeats 1000000 in
theorem t11 (u v : Value) (a b : List RSet) (w : World) (hu : SetsAt w u a) (hv : SetsAt w v b) : Calls Tryz.prog 82 #[u, v] w (RetV w (.bool (decide (a = b)))) := by
 obtain ⟨cu, hu1, hul⟩ := hu.sl
 obtain ⟨cv, hv1, hvl⟩ := hv.sl
 have hal := hu1.le
 go_enter Tryz.func82, Tryz.ntmps82
 (repeat' first | ((with_reducible refine nx0 ?_); go_step) | ((with_reducible refine o_s ?_); first | refine wk0 ?_ | (refine wg0 ?_ ?_ <;> intro hc)) | fail)
 ·have hne := ‹(!decide ((cu.length : Int) = (cv.length : Int))) = true›
  go_ret
  refine ⟨?_, Ext.refl _⟩
  have : a ≠ b := by rintro rfl; simp at hne; omega
  simp [this]
 ·have hne := ‹(!decide ((cu.length : Int) = (cv.length : Int))) = false›
  have hlen : a.length = b.length := by simp at hne; omega
  go_loopw [5] (fun i wr => ∃ k : Nat, k ≤ a.length ∧ i = .int .i64 k ∧ Ext w wr ∧ a.take k = b.take k) (fun i _ => a.length - (intOf i).toNat)
  case atStart => exact ⟨0, Nat.zero_le _, rfl, Ext.refl _, rfl⟩
  case round =>
   obtain ⟨k, hk, rfl, hx, hall⟩ := hrel
   by_cases hlt : k < a.length
   ·have hlt2 : k < b.length := by omega
    obtain ⟨x, h1, h1d⟩ := (hu.ext hx).elem (List.getElem?_eq_getElem hlt)
    obtain ⟨y, h2, h2d⟩ := (hv.ext hx).elem (List.getElem?_eq_getElem hlt2)
    have hu2 := hu1.ext hx
    have hv2 := hv1.ext hx
    (repeat' first | ((with_reducible refine nx0 ?_); go_step) | ((with_reducible refine o_s ?_); first | refine wk0 ?_ | (refine wg0 ?_ ?_ <;> intro hc)) | fail)
    refine wph_region (S := Ext wr) (by decide +kernel) ?_
    intro w2 x2 _
    refine tk 0 ?_; refine gset ?_; refine tk 1 ?_; refine gset ?_; refine tk 2 ?_; refine gset ?_; refine tk 3 ?_; refine gset ?_; refine tk 4 ?_; refine gset ?_; refine tk 5 ?_; refine gset ?_; refine tk 6 ?_; refine gset ?_; refine tk 7 ?_; refine gset ?_
    refine wph_one (i := 8) (by decide +kernel) rfl rfl ?_
    refine wpl_callV (enters_of Tryz.func137 rfl rfl) rfl rfl (t15 a[k] b[k] _ _ _ (h1d.ext x2) (h2d.ext x2)) ?_; intro w3 x3; refine gset ?_
    refine wph_nil ⟨by exact extc, ?_⟩
    refine tk 9 ?_; refine gset ?_
    refine wph_done (by decide +kernel) ?_
    by_cases he : a[k] = b[k]
    ·have e1 : decide (a[k] = b[k]) = true := decide_eq_true he
     simp only [e1, Bool.not_true]
     (repeat' first | ((with_reducible refine nx0 ?_); go_step) | ((with_reducible refine o_s ?_); first | refine wk0 ?_ | (refine wg0 ?_ ?_ <;> intro hc)) | fail)
     exact ⟨⟨k + 1, by omega, rfl, by exact extc, take_succ_eq hall hlt hlt2 he⟩, by simp [intOf]; omega⟩
    ·have e1 : decide (a[k] = b[k]) = false := decide_eq_false he
     simp only [e1, Bool.not_false]
     (repeat' first | ((with_reducible refine nx0 ?_); go_step) | ((with_reducible refine o_s ?_); first | refine wk0 ?_ | (refine wg0 ?_ ?_ <;> intro hc)) | fail)
     go_ret
     refine ⟨?_, by exact extc⟩
     simp [ne_of_at hlt hlt2 he]
   ·have hk2 : k = a.length := by omega
    subst hk2
    (repeat' first | ((with_reducible refine nx0 ?_); go_step) | ((with_reducible refine o_s ?_); first | refine wk0 ?_ | (refine wg0 ?_ ?_ <;> intro hc)) | fail)
    go_ret
    refine ⟨?_, by exact extc⟩
    rw [List.take_length, hlen, List.take_length] at hall
    simp [hall]
def shortAt (r : Rec) : Bool := decide (r.name.length ≤ 300) && decide (r.data.length ≤ 300)
theorem all_no {α : Type} {p : α → Bool} {l : List α} {k : Nat} (h : k < l.length) (hp : p l[k] = false) : l.all p = false := by
 rw [List.all_eq_false]
 exact ⟨l[k], List.getElem_mem h, by simp [hp]⟩
theorem all_take {α : Type} {p : α → Bool} {l : List α} {k : Nat} (h : k < l.length) (ha : (l.take k).all p = true) (hp : p l[k] = true) : (l.take (k + 1)).all p = true := by
 rw [List.take_add_one, List.getElem?_eq_getElem h, List.all_append, ha]
 simp [hp]
def badAt (s : RSet) (i : Nat) : Bool := decide (checkR ⟨s.name, s.kind, s.ttl, s.data.getD i []⟩ ≠ 0) || (decide (0 < i) && !Op.bytesLess (s.data.getD (i - 1) []) (s.data.getD i []))
def mayS (s : RSet) : Bool := decide (fold s.name = s.name) && decide (1 ≤ s.data.length) && decide (s.data.length ≤ 20) && (List.range s.data.length).all fun i => !badAt s i
theorem mayS_bad {s : RSet} {i : Nat} (hi : i < s.data.length) (h : badAt s i = true) : mayS s = false := by
 have : (List.range s.data.length).all (fun i => !badAt s i) = false := by
  rw [List.all_eq_false]
  exact ⟨i, by simpa using hi, by simp [h]⟩
 simp [mayS, this]
set_option maxHeartbeats 2400000 in
theorem t23 (s : RSet) (v : Value) (w : World) (hv : Sl 1 w v (tcells s.data)) : Calls Tryz.prog 138 #[.agg #[str s.name, .int .i64 s.kind, .int .i64 s.ttl, v]] w (RetV w (.bool (mayS s))) := by
 have hlen := tcells_length s.data
 go_enter Tryz.func138, Tryz.ntmps138
 repeat' (first | ((with_reducible refine nx0 ?_); go_step) | fail)
 refine wpl_box (vs := [str s.name, .int .i64 s.kind, .int .i64 s.ttl, v]) rfl rfl ?_
 intro p w1 x1 hp
 refine gset ?_
 (repeat' first | ((with_reducible refine nx0 ?_); go_step) | ((with_reducible refine o_s ?_); first | refine wk0 ?_ | (refine wg0 ?_ ?_ <;> intro hc)) | fail)
 refine wph_region (S := Ext w1) (by decide +kernel) ?_
 intro w2 x2 _
 refine tk 0 ?_; refine gset ?_; refine tk 1 ?_; refine gset ?_; refine tk 3 ?_; refine gset ?_; refine tk 4 ?_; refine gset ?_
 refine wph_one (i := 2) (by decide +kernel) rfl rfl ?_
 refine wpl_callV (enters_of Tryz.func69 rfl rfl) rfl rfl (t17 _ _) ?_; intro w3 x3; refine gset ?_
 refine wph_nil ⟨by exact extc, ?_⟩
 refine tk 5 ?_; refine gset ?_
 by_cases hf : fold s.name = s.name
 ·have e1 : (decide (fold s.name = s.name)) = true := by simpa using hf
  simp only [e1, Bool.not_true]
  refine tk 6 ?_; refine gset ?_; refine tk 7 ?_; refine gset ?_; refine tk 8 ?_; refine gset ?_; refine tk 9 ?_; refine gset ?_; refine tk 10 ?_; refine gset ?_
  by_cases h1 : s.data.length < 1
  ·have e2 : decide (((tcells s.data).length : Int) < 1) = true := decide_eq_true (by omega)
   simp only [e2]
   refine tk 11 ?_; refine gset ?_; refine tk 12 ?_; refine gset ?_
   refine tsk 13 ?_; refine gset ?_
   refine tsk 14 ?_; refine gset ?_
   refine tsk 15 ?_; refine gset ?_
   refine tsk 16 ?_; refine gset ?_
   refine tk 17 ?_; refine gset ?_
   refine wph_done (by decide +kernel) ?_
   (repeat' first | ((with_reducible refine nx0 ?_); go_step) | ((with_reducible refine o_s ?_); first | refine wk0 ?_ | (refine wg0 ?_ ?_ <;> intro hc)) | fail)
   go_ret
   refine ⟨?_, by exact extc⟩
   have : decide (1 ≤ s.data.length) = false := decide_eq_false (by omega)
   simp [mayS, this]
  ·have e2 : decide (((tcells s.data).length : Int) < 1) = false := decide_eq_false (by omega)
   simp only [e2]
   refine tk 11 ?_; refine gset ?_; refine tk 12 ?_; refine gset ?_; refine tk 13 ?_; refine gset ?_; refine tk 14 ?_; refine gset ?_; refine tk 15 ?_; refine gset ?_; refine tk 16 ?_; refine gset ?_; refine tk 17 ?_; refine gset ?_
   refine wph_done (by decide +kernel) ?_
   by_cases h2 : 20 < s.data.length
   ·have e3 : decide ((20 : Int) < ((tcells s.data).length : Int)) = true := decide_eq_true (by omega)
    simp only [e3]
    (repeat' first | ((with_reducible refine nx0 ?_); go_step) | ((with_reducible refine o_s ?_); first | refine wk0 ?_ | (refine wg0 ?_ ?_ <;> intro hc)) | fail)
    go_ret
    refine ⟨?_, by exact extc⟩
    have : decide (s.data.length ≤ 20) = false := decide_eq_false (by omega)
    simp [mayS, this]
   ·have e3 : decide ((20 : Int) < ((tcells s.data).length : Int)) = false := decide_eq_false (by omega)
    simp only [e3]
    (repeat' first | ((with_reducible refine nx0 ?_); go_step) | ((with_reducible refine o_s ?_); first | refine wk0 ?_ | (refine wg0 ?_ ?_ <;> intro hc)) | fail)
    have hxx : Ext w w3 := by exact extc
    go_loopw [3, 4, 26] (fun _ _ i wr => ∃ k : Nat, k ≤ s.data.length ∧ i = .int .i64 k ∧ Ext w3 wr ∧ ∀ j, j < k → badAt s j = false) (fun _ _ i _ => s.data.length - (intOf i).toNat)
    case atStart => exact ⟨0, Nat.zero_le _, rfl, Ext.refl _, by omega⟩
    case round =>
     obtain ⟨k, hk, rfl, hx, hall⟩ := hrel
     by_cases hlt : k < s.data.length
     ·have hvr : Sl 1 wr v (tcells s.data) := hv.ext (hxx.trans hx)
      have he : (tcells s.data)[k]? = some [str s.data[k]] := by simp [tcells, hlt]
      have hpe := hvr.elem he
      have hpr : Pts wr p _ := hp.ext ((x2.trans x3).trans hx)
      have hbad : badAt s k = (decide (checkR ⟨s.name, s.kind, s.ttl, s.data[k]⟩ ≠ 0) || (decide (0 < k) && !Op.bytesLess (s.data.getD (k - 1) []) s.data[k])) := by
       have : s.data.getD k [] = s.data[k] := by simp [hlt]
       rw [badAt, this]
      (repeat' first | ((with_reducible refine nx0 ?_); go_step) | ((with_reducible refine o_s ?_); first | refine wk0 ?_ | (refine wg0 ?_ ?_ <;> intro hc)) | fail)
      refine wpl_callV (enters_of Tryz.func134 rfl rfl) rfl rfl (t22 _ _ _ _) ?_; intro w7 x7; refine gset ?_
      (repeat' first | ((with_reducible refine nx0 ?_); go_step) | ((with_reducible refine o_s ?_); first | refine wk0 ?_ | (refine wg0 ?_ ?_ <;> intro hc)) | fail)
      refine wpl_callV (enters_of Tryz.func108 rfl rfl) rfl rfl (t16 ⟨s.name, s.kind, s.ttl, s.data[k]⟩ _) ?_; intro w8 x8; refine gset ?_
      by_cases hc : checkR ⟨s.name, s.kind, s.ttl, s.data[k]⟩ = 0
      ·have e4 : decide (checkR ⟨s.name, s.kind, s.ttl, s.data[k]⟩ = 0) = true := decide_eq_true hc
       generalize checkR ⟨s.name, s.kind, s.ttl, s.data[k]⟩ = cr at hc e4 hbad ⊢
       ((with_reducible refine o_s ?_); (first | (refine o_1 ?_; refine o_2 ?_) | (refine o_g ?_; refine o_u ?_; (with_reducible refine o_s ?_); refine o_1 ?_; refine o_2 ?_)))
       simp only [e4, Bool.not_true]
       (repeat' first | ((with_reducible refine nx0 ?_); go_step) | ((with_reducible refine o_s ?_); first | refine wk0 ?_ | (refine wg0 ?_ ?_ <;> intro hc)) | fail)
       ·have hpp : Pts wr (elemPtr v (((k : Int) - 1).toNat * 1)) [str (s.data.getD (k - 1) [])] := by
         have e : ((k : Int) - 1).toNat = k - 1 := by omega
         rw [e]
         refine hvr.elem ?_
         have : k - 1 < s.data.length := by omega
         simp [tcells, this]
        (repeat' first | ((with_reducible refine nx0 ?_); go_step) | ((with_reducible refine o_s ?_); first | refine wk0 ?_ | (refine wg0 ?_ ?_ <;> intro hc)) | fail)
        ·have hl := ‹(!Op.bytesLess (s.data.getD (k - 1) []) s.data[k]) = true›
         go_ret
         refine ⟨?_, by exact extc⟩
         rw [mayS_bad hlt (by rw [hbad, hl]; have : 0 < k := by omega
                              simp [this])]
         rfl
        ·have hl := ‹(!Op.bytesLess (s.data.getD (k - 1) []) s.data[k]) = false›
         exact ⟨⟨k + 1, by omega, rfl, by exact extc, fun j hj => by
          rcases Nat.lt_or_ge j k with h | h
          ·exact hall j h
          ·have : j = k := by omega
           subst this
           rw [hbad, hl]; simp [‹cr = 0›]⟩, by simp [intOf]; omega⟩
       ·exact ⟨⟨k + 1, by omega, rfl, by exact extc, fun j hj => by
         rcases Nat.lt_or_ge j k with h | h
         ·exact hall j h
         ·have : j = k := by omega
          subst this
          have : ¬ (0 < j) := by omega
          rw [hbad]; simp [‹cr = 0›, this]⟩, by simp [intOf]; omega⟩
      ·have e4 : decide (checkR ⟨s.name, s.kind, s.ttl, s.data[k]⟩ = 0) = false := decide_eq_false hc
       generalize checkR ⟨s.name, s.kind, s.ttl, s.data[k]⟩ = cr at hc e4 hbad ⊢
       ((with_reducible refine o_s ?_); (first | (refine o_1 ?_; refine o_2 ?_) | (refine o_g ?_; refine o_u ?_; (with_reducible refine o_s ?_); refine o_1 ?_; refine o_2 ?_)))
       simp only [e4, Bool.not_false]
       (repeat' first | ((with_reducible refine nx0 ?_); go_step) | ((with_reducible refine o_s ?_); first | refine wk0 ?_ | (refine wg0 ?_ ?_ <;> intro hc)) | fail)
       go_ret
       refine ⟨?_, by exact extc⟩
       rw [mayS_bad hlt (by rw [hbad]; simp [hc])]
       rfl
     ·have : k = s.data.length := by omega
      subst this
      (repeat' first | ((with_reducible refine nx0 ?_); go_step) | ((with_reducible refine o_s ?_); first | refine wk0 ?_ | (refine wg0 ?_ ?_ <;> intro hc)) | fail)
      go_ret
      refine ⟨?_, by exact extc⟩
      have h20 : decide (s.data.length ≤ 20) = true := decide_eq_true (by omega)
      have h10 : decide (1 ≤ s.data.length) = true := decide_eq_true (by omega)
      have hal : (List.range s.data.length).all (fun i => !badAt s i) = true := by
       rw [List.all_eq_true]
       intro i hi
       simp [hall i (by simpa using hi)]
      have : mayS s = true := by rw [mayS, hal, h20, h10, e1]; rfl
      rw [this]
      rfl
 ·have e1 : (decide (fold s.name = s.name)) = false := by simpa using hf
  simp only [e1, Bool.not_false]
  refine tk 6 ?_; refine gset ?_
  refine tsk 7 ?_; refine gset ?_
  refine tsk 8 ?_; refine gset ?_
  refine tsk 9 ?_; refine gset ?_
  refine tsk 10 ?_; refine gset ?_
  refine tk 11 ?_; refine gset ?_; refine tk 12 ?_; refine gset ?_
  refine tsk 13 ?_; refine gset ?_
  refine tsk 14 ?_; refine gset ?_
  refine tsk 15 ?_; refine gset ?_
  refine tsk 16 ?_; refine gset ?_
  refine tk 17 ?_; refine gset ?_
  refine wph_done (by decide +kernel) ?_
  (repeat' first | ((with_reducible refine nx0 ?_); go_step) | ((with_reducible refine o_s ?_); first | refine wk0 ?_ | (refine wg0 ?_ ?_ <;> intro hc)) | fail)
  go_ret
  refine ⟨?_, by exact extc⟩
  simp [mayS, hf]
set_option maxHeartbeats 6000000 in
theorem t24 (v : Value) (l : List (List UInt8)) (w : World) (hv : Sl 1 w v (tcells l)) (hl : l.length ≤ 8796093022208) : Calls Tryz.prog 81 #[v] w (Ret w fun v' w' => Own w.heap.size 1 9 w' v' (tcells l)) := by
 have hlen := tcells_length l
 go_enter Tryz.func81, Tryz.ntmps81
 (repeat' first | ((with_reducible refine nx0 ?_); go_step) | ((with_reducible refine o_s ?_); first | refine wk0 ?_ | (refine wg0 ?_ ?_ <;> intro hc)) | fail)
 ·have hn := ‹isNil v = true›
  go_ret
  have : tcells l = [] := hv.isNil hn
  refine ⟨_, rfl, Ext.refl _, ?_⟩
  rw [this]
  exact Own.nil _ _ _ _
 ·refine wpl_slice0 (t := 113) (e := 9) (k := 1) (bytes := 16) (by decide +kernel) rfl ?_
  intro v2 w2 x2 s2 o2
  refine gset ?_
  (repeat' first | ((with_reducible refine nx0 ?_); go_step) | ((with_reducible refine o_s ?_); first | refine wk0 ?_ | (refine wg0 ?_ ?_ <;> intro hc)) | fail)
  refine wpl_append (B := w.heap.size) (e := 9) (k := 1) (bytes := 16) (es := []) (fs := tcells l) rfl o2 rfl (hv.ext x2) (by decide +kernel) (by simp [tcells, str, Value.oneCell']) (by omega) (by simp; omega) (by simp; omega) ?_
  intro v3 w3 o3 m3
  have x3 := o2.mvx m3 x2 (Nat.le_refl _)
  (repeat' first | ((with_reducible refine nx0 ?_); go_step) | ((with_reducible refine o_s ?_); first | refine wk0 ?_ | (refine wg0 ?_ ?_ <;> intro hc)) | fail)
  go_ret
  exact ⟨_, rfl, x3, o3⟩
def badSet (l : List RSet) (i : Nat) : Bool := match l[i]? with
 | none => false
 | some s => !mayS s || (decide (0 < i) && decide (0 ≤ cmpSet (l.getD (i - 1) default).name s.name (l.getD (i - 1) default).kind s.kind))
def checkS (l : List RSet) : Int := if 200 < l.length then 1 else if (List.range l.length).all (fun i => !badSet l i) = true then 0 else 1
theorem checkS_bad {l : List RSet} {i : Nat} (hi : i < l.length) (h : badSet l i = true) : checkS l = 1 := by
 have : (List.range l.length).all (fun i => !badSet l i) = false := by
  rw [List.all_eq_false]
  exact ⟨i, by simpa using hi, by simp [h]⟩
 rw [checkS, this]
 split <;> rfl
set_option maxHeartbeats 12000000 in
theorem t12 (v : Value) (l : List RSet) (w : World) (hv : SetsAt w v l) : Calls Tryz.prog 83 #[v] w (RetV w (.int .i64 (checkS l))) := by
 obtain ⟨cv, hv1, hvl⟩ := hv.sl
 have hle := hv1.le
 go_enter Tryz.func83, Tryz.ntmps83
 (repeat' first | ((with_reducible refine nx0 ?_); go_step) | ((with_reducible refine o_s ?_); first | refine wk0 ?_ | (refine wg0 ?_ ?_ <;> intro hc)) | fail)
 ·go_ret
  refine ⟨?_, Ext.refl _⟩
  rw [checkS, if_pos (by omega)]
  rfl
 ·go_loopw [3, 4, 10] (fun _ _ i wr => ∃ k : Nat, k ≤ l.length ∧ i = .int .i64 k ∧ Ext w wr ∧ ∀ j, j < k → badSet l j = false) (fun _ _ i _ => l.length - (intOf i).toNat)
  case atStart => exact ⟨0, Nat.zero_le _, rfl, Ext.refl _, by omega⟩
  case round =>
   obtain ⟨k, hk, rfl, hx, hall⟩ := hrel
   have hv2 := hv1.ext hx
   by_cases hlt : k < l.length
   ·obtain ⟨x, h1, h1d⟩ := (hv.ext hx).elem (List.getElem?_eq_getElem hlt)
    have hbad : badSet l k = (!mayS l[k] || (decide (0 < k) && decide (0 ≤ cmpSet (l.getD (k - 1) default).name l[k].name (l.getD (k - 1) default).kind l[k].kind))) := by
     rw [badSet, List.getElem?_eq_getElem hlt]
    (repeat' first | ((with_reducible refine nx0 ?_); go_step) | ((with_reducible refine o_s ?_); first | refine wk0 ?_ | (refine wg0 ?_ ?_ <;> intro hc)) | fail)
    refine wpl_allocB (z := [str [], .int .i64 0, .int .i64 0, .slice none 0 0]) rfl (by decide +kernel) ?_
    intro w2 x2 s2 h2
    (repeat' first | ((with_reducible refine nx0 ?_); go_step) | ((with_reducible refine o_s ?_); first | refine wk0 ?_ | (refine wg0 ?_ ?_ <;> intro hc)) | fail)
    refine wpl_storeB (v := .agg #[str l[k].name, .int .i64 l[k].kind, .int .i64 l[k].ttl, x]) rfl rfl rfl h2 (show sizeTy Tryz.prog 115 4 = true by decide +kernel) rfl ?_ ?_
    ·exact all4 rfl rfl rfl h1d.one
    intro w3 p3
    have x3 : Ext wr w3 := x2.move p3.mv (by rintro k ⟨⟩; exact Nat.le_refl _)
    have hp4 := pts_block (cs := [str l[k].name, .int .i64 l[k].kind, .int .i64 l[k].ttl, x]) p3.this
    clear p3 h2 x2
    (repeat' first | ((with_reducible refine nx0 ?_); go_step) | ((with_reducible refine o_s ?_); first | refine wk0 ?_ | (refine wg0 ?_ ?_ <;> intro hc)) | fail)
    refine wph_region (S := Ext w3) (by decide +kernel) ?_
    intro w4 x4 _
    refine tk 0 ?_; refine gset ?_
    refine wph_one (i := 1) (by decide +kernel) rfl rfl ?_
    refine wpl_callV (enters_of Tryz.func138 rfl rfl) rfl rfl (t23 l[k] _ _ (h1d.ext (x3.trans x4))) ?_; intro w5 x5; refine gset ?_
    refine wph_nil ⟨by exact extc, ?_⟩
    cases hm : mayS l[k] with
    | false =>
     rw [hm] at hbad
     refine tk 2 ?_; refine gset ?_
     try simp only [Bool.not_false]
     refine tk 3 ?_; refine gset ?_
     refine tsk 4 ?_; refine gset ?_; refine tsk 5 ?_; refine gset ?_; refine tsk 6 ?_; refine gset ?_; refine tsk 7 ?_; refine gset ?_; refine tsk 8 ?_; refine gset ?_; refine tsk 9 ?_; refine gset ?_; refine tsk 10 ?_; refine gset ?_; refine tsk 11 ?_; refine gset ?_; refine tsk 12 ?_; refine gset ?_; refine tsk 13 ?_; refine gset ?_; refine tsk 14 ?_; refine gset ?_; refine tsk 15 ?_; refine gset ?_
     refine tk 16 ?_; refine gset ?_
     refine wph_done (by decide +kernel) ?_
     (repeat' first | ((with_reducible refine nx0 ?_); go_step) | ((with_reducible refine o_s ?_); first | refine wk0 ?_ | (refine wg0 ?_ ?_ <;> intro hc)) | fail)
     go_ret
     refine ⟨?_, by exact extc⟩
     rw [checkS_bad hlt (by rw [hbad]; rfl)]
     rfl
    | true =>
     rw [hm] at hbad
     refine tk 2 ?_; refine gset ?_
     try simp only [Bool.not_true]
     refine tk 3 ?_; refine gset ?_; refine tk 4 ?_; refine gset ?_; refine tk 5 ?_; refine gset ?_
     by_cases hk0 : 0 < k
     ·have e5 : decide ((0 : Int) < (k : Int)) = true := decide_eq_true (by omega)
      have e6 : decide (0 < k) = true := decide_eq_true hk0
      simp only [e5]
      rw [e6] at hbad
      have hkl : k - 1 < l.length := by omega
      have hgd : l.getD (k - 1) default = l[k - 1] := by simp [hkl]
      obtain ⟨y, h9', h9d⟩ := (hv.ext hx).elem (List.getElem?_eq_getElem hkl)
      have e9 : ((k : Int) - 1).toNat = k - 1 := by omega
      have h9 : Pts wr (elemPtr v (((k : Int) - 1).toNat * 4)) [str l[k - 1].name, .int .i64 l[k - 1].kind, .int .i64 l[k - 1].ttl, y] := by rw [e9]; exact h9'
      rw [hgd] at hbad
      refine tk 6 ?_; refine gset ?_; refine tk 7 ?_; refine gset ?_; refine tk 8 ?_; refine gset ?_; refine tk 9 ?_; refine gset ?_; refine tk 10 ?_; refine gset ?_; refine tk 11 ?_; refine gset ?_; refine tk 12 ?_; refine gset ?_
      refine wph_one (i := 13) (by decide +kernel) rfl rfl ?_
      refine wpl_callV (enters_of Tryz.func129 rfl rfl) rfl rfl (t21 _ _ _ _ _ _ _ _ _) ?_; intro w6 x6; refine gset ?_
      refine wph_nil ⟨by exact extc, ?_⟩
      refine tk 14 ?_; refine gset ?_; refine tk 15 ?_; refine gset ?_; refine tk 16 ?_; refine gset ?_
      refine wph_done (by decide +kernel) ?_
      by_cases hc : 0 ≤ cmpSet l[k - 1].name l[k].name l[k - 1].kind l[k].kind
      ·have e7 : decide (0 ≤ cmpSet l[k - 1].name l[k].name l[k - 1].kind l[k].kind) = true := decide_eq_true hc
       simp only [e7]
       (repeat' first | ((with_reducible refine nx0 ?_); go_step) | ((with_reducible refine o_s ?_); first | refine wk0 ?_ | (refine wg0 ?_ ?_ <;> intro hc)) | fail)
       go_ret
       refine ⟨?_, by exact extc⟩
       rw [checkS_bad hlt (by rw [hbad, e7]; rfl)]
       rfl
      ·have e7 : decide (0 ≤ cmpSet l[k - 1].name l[k].name l[k - 1].kind l[k].kind) = false := decide_eq_false hc
       simp only [e7]
       (repeat' first | ((with_reducible refine nx0 ?_); go_step) | ((with_reducible refine o_s ?_); first | refine wk0 ?_ | (refine wg0 ?_ ?_ <;> intro hc)) | fail)
       exact ⟨⟨k + 1, by omega, rfl, by exact extc, fun j hj => by
        rcases Nat.lt_or_ge j k with h | h
        ·exact hall j h
        ·have : j = k := by omega
         subst this
         rw [hbad, e7]; rfl⟩, by simp [intOf]; omega⟩
     ·have e5 : decide ((0 : Int) < (k : Int)) = false := decide_eq_false (by omega)
      have e6 : decide (0 < k) = false := decide_eq_false hk0
      simp only [e5]
      rw [e6] at hbad
      refine tk 6 ?_; refine gset ?_
      refine tsk 7 ?_; refine gset ?_; refine tsk 8 ?_; refine gset ?_; refine tsk 9 ?_; refine gset ?_; refine tsk 10 ?_; refine gset ?_; refine tsk 11 ?_; refine gset ?_; refine tsk 12 ?_; refine gset ?_; refine tsk 13 ?_; refine gset ?_; refine tsk 14 ?_; refine gset ?_
      refine tk 15 ?_; refine gset ?_; refine tk 16 ?_; refine gset ?_
      refine wph_done (by decide +kernel) ?_
      (repeat' first | ((with_reducible refine nx0 ?_); go_step) | ((with_reducible refine o_s ?_); first | refine wk0 ?_ | (refine wg0 ?_ ?_ <;> intro hc)) | fail)
      exact ⟨⟨k + 1, by omega, rfl, by exact extc, fun j hj => by
       rcases Nat.lt_or_ge j k with h | h
       ·exact hall j h
       ·have : j = k := by omega
        subst this
        rw [hbad]; rfl⟩, by simp [intOf]; omega⟩
   ·have hk2 : k = l.length := by omega
    subst hk2
    (repeat' first | ((with_reducible refine nx0 ?_); go_step) | ((with_reducible refine o_s ?_); first | refine wk0 ?_ | (refine wg0 ?_ ?_ <;> intro hc)) | fail)
    go_ret
    refine ⟨?_, by exact extc⟩
    have : (List.range l.length).all (fun i => !badSet l i) = true := by
     rw [List.all_eq_true]
     intro i hi
     simp [hall i (by simpa using hi)]
    rw [checkS, this, if_neg (by omega)]
    rfl
def hit (n : List UInt8) (k : Int) (s : RSet) : Bool := decide (s.name = n) && decide (s.kind = k)
def findS (l : List RSet) (n : List UInt8) (k : Int) : Option RSet := l.find? (hit (fold n) k)
def zset : List Value := [str [], .int .i64 0, .int .i64 0, .slice none 0 0]
theorem find_take {α : Type} {p : α → Bool} {l : List α} {k : Nat} (h : k < l.length) (ha : (l.take k).find? p = none) (hp : p l[k] = false) : (l.take (k + 1)).find? p = none := by
 rw [List.take_add_one, List.getElem?_eq_getElem h, List.find?_append, ha]
 simp [hp]
theorem find_at {α : Type} {p : α → Bool} {l : List α} {k : Nat} (h : k < l.length) (ha : (l.take k).find? p = none) (hp : p l[k] = true) : l.find? p = some l[k] := by
 have e : l = l.take k ++ (l[k] :: l.drop (k + 1)) := by rw [← List.drop_eq_getElem_cons h, List.take_append_drop]
 have : l.find? p = (l.take k ++ (l[k] :: l.drop (k + 1))).find? p := congrArg _ e
 rw [this, List.find?_append, ha, List.find?_cons, hp]
 rfl
set_option maxHeartbeats 12000000 in
theorem t13 (v : Value) (l : List RSet) (n : List UInt8) (kd : Int) (w : World) (hv : SetsAt w v l) (hb : ∀ s ∈ l, s.data.length ≤ 8796093022208) : Calls Tryz.prog 84 #[v, str n, .int .i64 kd] w (Ret w fun r w' => match findS l n kd with
 | some s => ∃ x, r = .tuple #[.agg #[str s.name, .int .i64 s.kind, .int .i64 s.ttl, x], .bool true] ∧ Own w.heap.size 1 9 w' x (tcells s.data)
 | none => r = .tuple #[.agg zset.toArray, .bool false]) := by
 obtain ⟨cv, hv1, hvl⟩ := hv.sl
 have hle := hv1.le
 go_enter Tryz.func84, Tryz.ntmps84
 repeat' (first | ((with_reducible refine nx0 ?_); go_step) | fail)
 refine wpl_allocB (z := zset) rfl (by decide +kernel) ?_
 intro w1 x1 s1 h1
 (repeat' first | ((with_reducible refine nx0 ?_); go_step) | ((with_reducible refine o_s ?_); first | refine wk0 ?_ | (refine wg0 ?_ ?_ <;> intro hc)) | fail)
 refine wpl_callV (enters_of Tryz.func69 rfl rfl) rfl rfl (t17 _ _) ?_; intro w2 x2; refine gset ?_
 have h2 := x2.at h1
 have x12 : Ext w w2 := x1.trans x2
 (repeat' first | ((with_reducible refine nx0 ?_); go_step) | ((with_reducible refine o_s ?_); first | refine wk0 ?_ | (refine wg0 ?_ ?_ <;> intro hc)) | fail)
 have hv2 := hv1.ext x12
 (repeat' first | ((with_reducible refine nx0 ?_); go_step) | ((with_reducible refine o_s ?_); first | refine wk0 ?_ | (refine wg0 ?_ ?_ <;> intro hc)) | fail)
 go_loopw [9, 14] (fun _ i wr => ∃ k : Nat, k ≤ l.length ∧ i = .int .i64 k ∧ Ext w2 wr ∧ (l.take k).find? (hit (fold n) kd) = none) (fun _ i _ => l.length - (intOf i).toNat)
 case atStart => exact ⟨0, Nat.zero_le _, rfl, Ext.refl _, rfl⟩
 case round =>
  obtain ⟨k, hk, rfl, hx, hall⟩ := hrel
  have hxw : Ext w wr := x12.trans hx
  have hv2 := hv1.ext hxw
  have h3 := hx.at h2
  by_cases hlt : k < l.length
  ·obtain ⟨x, h4, h4d⟩ := (hv.ext hxw).elem (List.getElem?_eq_getElem hlt)
   have hbk := hb _ (List.getElem_mem hlt)
   (repeat' first | ((with_reducible refine nx0 ?_); go_step) | ((with_reducible refine o_s ?_); first | refine wk0 ?_ | (refine wg0 ?_ ?_ <;> intro hc)) | fail)
   refine wpl_allocB (z := zset) rfl (by decide +kernel) ?_
   intro w5 x5 s5 h5
   (repeat' first | ((with_reducible refine nx0 ?_); go_step) | ((with_reducible refine o_s ?_); first | refine wk0 ?_ | (refine wg0 ?_ ?_ <;> intro hc)) | fail)
   refine wpl_storeB (v := .agg #[str l[k].name, .int .i64 l[k].kind, .int .i64 l[k].ttl, x]) rfl rfl rfl h5 (show sizeTy Tryz.prog 115 4 = true by decide +kernel) rfl (all4 rfl rfl rfl h4d.one) ?_
   intro w6 p6
   have x6 : Ext wr w6 := x5.move p6.mv (by rintro k ⟨⟩; exact Nat.le_refl _)
   have b6 := p6.this
   have hp6 := pts_block (cs := [str l[k].name, .int .i64 l[k].kind, .int .i64 l[k].ttl, x]) b6
   have z6 : w6.heap.size = wr.heap.size + 1 := p6.size.trans s5
   clear p6 h5 x5
   (repeat' first | ((with_reducible refine nx0 ?_); go_step) | ((with_reducible refine o_s ?_); first | refine wk0 ?_ | (refine wg0 ?_ ?_ <;> intro hc)) | fail)
   ·have hh : findS l n kd = some l[k] := find_at hlt hall (by have h1 := ‹l[k].name = fold n›; have h2 := ‹l[k].kind = kd›; simp [hit, h1, h2])
    refine wpl_callR (enters_of Tryz.func81 rfl rfl) rfl rfl (t24 x l[k].data _ (h4d.ext x6) hbk) ?_
    intro y w7 x7 o7
    refine gset ?_
    (repeat' first | ((with_reducible refine nx0 ?_); go_step) | ((with_reducible refine o_s ?_); first | refine wk0 ?_ | (refine wg0 ?_ ?_ <;> intro hc)) | fail)
    have b7 := x7.at b6
    refine wpl_storeF (cs := [str l[k].name, .int .i64 l[k].kind, .int .i64 l[k].ttl, x]) b7 rfl rfl rfl (by simp) (by decide +kernel) o7.one ?_
    intro w8 p8
    have x68 : Ext wr w8 := (x6.trans x7).move p8.mv (by rintro k ⟨⟩; exact Nat.le_refl _)
    have hp8 := pts_block (cs := [str l[k].name, .int .i64 l[k].kind, .int .i64 l[k].ttl, y]) p8.this
    have h8 := x68.at h3
    have o8 : Own (w.heap.size + 1) 1 9 w8 y (tcells l[k].data) := (o7.put p8 (by omega)).weaken (by have := hx.size; have := x2.size; omega)
    clear hp6 b6 b7 p8
    (repeat' first | ((with_reducible refine nx0 ?_); go_step) | ((with_reducible refine o_s ?_); first | refine wk0 ?_ | (refine wg0 ?_ ?_ <;> intro hc)) | fail)
    refine wpl_storeB (v := .agg #[str l[k].name, .int .i64 l[k].kind, .int .i64 l[k].ttl, y]) rfl rfl rfl h8 (show sizeTy Tryz.prog 115 4 = true by decide +kernel) rfl (all4 rfl rfl rfl o7.one) ?_
    intro w9 p9
    have x9 : Ext w w9 := (hxw.trans x68).move p9.mv (by rintro k ⟨⟩; exact Nat.le_refl _)
    have o9 : Own (w.heap.size + 1) 1 9 w9 y (tcells l[k].data) := o8.put p9 (by omega)
    (repeat' first | ((with_reducible refine nx0 ?_); go_step) | ((with_reducible refine o_s ?_); first | refine wk0 ?_ | (refine wg0 ?_ ?_ <;> intro hc)) | fail)
    refine bodyPost_ret (results_cellT (cs := [str l[k].name, .int .i64 l[k].kind, .int .i64 l[k].ttl, y]) rfl rfl p9.this (show aggTy Tryz.prog 115 4 = true by decide +kernel)) rfl ⟨_, rfl, x9, ?_⟩
    rw [hh]
    exact ⟨y, rfl, o9.weaken (by omega)⟩
   ·exact ⟨⟨k + 1, by omega, rfl, by exact extc, find_take hlt hall (by have h2 := ‹¬l[k].kind = kd›; simp [hit, h2])⟩, by simp [intOf]; omega⟩
   ·exact ⟨⟨k + 1, by omega, rfl, by exact extc, find_take hlt hall (by have h2 := ‹¬l[k].name = fold n›; simp [hit, h2])⟩, by simp [intOf]; omega⟩
  ·have hk2 : k = l.length := by omega
   subst hk2
   rw [List.take_length] at hall
   (repeat' first | ((with_reducible refine nx0 ?_); go_step) | ((with_reducible refine o_s ?_); first | refine wk0 ?_ | (refine wg0 ?_ ?_ <;> intro hc)) | fail)
   refine wpl_run rfl (Runs.build0 (cells := zset.toArray) (by kernel_rfl)) ?_
   refine gset ?_
   refine wpl_storeB (v := .agg zset.toArray) rfl rfl rfl h3 (show sizeTy Tryz.prog 115 4 = true by decide +kernel) rfl (all4 rfl rfl rfl rfl) ?_
   intro w4 p4
   have x4 : Ext w w4 := hxw.move p4.mv (by rintro k ⟨⟩; exact Nat.le_refl _)
   (repeat' first | ((with_reducible refine nx0 ?_); go_step) | ((with_reducible refine o_s ?_); first | refine wk0 ?_ | (refine wg0 ?_ ?_ <;> intro hc)) | fail)
   refine bodyPost_ret (results_cellT (cs := zset) rfl rfl p4.this (by decide +kernel)) rfl ⟨_, rfl, x4, ?_⟩
   have hh : findS l n kd = none := hall
   rw [hh]
   rfl
def recOf (s : RSet) (d : List UInt8) : Rec := ⟨s.name, s.kind, s.ttl, d⟩
def recsOf (s : RSet) : List Rec := s.data.map (recOf s)
def recordsS (l : List RSet) : List Rec := (l.map recsOf).flatten
theorem map_take_succ {α β : Type} {f : α → β} {l : List α} {k : Nat} (h : k < l.length) : (l.take (k + 1)).map f = (l.take k).map f ++ [f l[k]] := by
 rw [List.take_add_one, List.getElem?_eq_getElem h, List.map_append]
 simp
theorem flat_take_le {α : Type} (L : List (List α)) (k : Nat) : (L.take k).flatten.length ≤ L.flatten.length := by
 conv => rhs; rw [← List.take_append_drop k L, List.flatten_append]
 simp
def recsP (l : List RSet) (k : Nat) : List Rec := ((l.take k).map recsOf).flatten
theorem recsP_succ {l : List RSet} {k : Nat} (h : k < l.length) : recsP l (k + 1) = recsP l k ++ recsOf l[k] := by
 rw [recsP, map_take_succ h, List.flatten_append]
 simp [recsP]
theorem recsP_le (l : List RSet) (k : Nat) : (recsP l k).length ≤ (recordsS l).length := by
 rw [recsP, recordsS, List.map_take]
 exact flat_take_le _ _
theorem recsP_all (l : List RSet) : recsP l l.length = recordsS l := by rw [recsP, List.take_length, recordsS]
set_option maxHeartbeats 12000000 in
theorem t10 (v : Value) (l : List RSet) (w : World) (hv : SetsAt w v l) (hb : (recordsS l).length ≤ 1000000) : Calls Tryz.prog 71 #[v] w (Ret w fun r w' => Own w.heap.size 4 81 w' r (rcells (recordsS l))) := by
 obtain ⟨cv, hv1, hvl⟩ := hv.sl
 have hle := hv1.le
 go_enter Tryz.func71, Tryz.ntmps71
 (repeat' first | ((with_reducible refine nx0 ?_); go_step) | ((with_reducible refine o_s ?_); first | refine wk0 ?_ | (refine wg0 ?_ ?_ <;> intro hc)) | fail)
 go_loopw [3, 5, 7, 10, 17] (fun o _ _ i _ wr => ∃ k : Nat, k ≤ l.length ∧ i = .int .i64 k ∧ Ext w wr ∧ Own w.heap.size 4 81 wr o (rcells (recsP l k))) (fun _ _ _ i _ _ => l.length - (intOf i).toNat)
 case atStart => exact ⟨0, Nat.zero_le _, rfl, Ext.refl _, Own.nil _ _ _ _⟩
 case round =>
  obtain ⟨k, hk, rfl, hx, ho⟩ := hrel
  have hv2 := hv1.ext hx
  by_cases hlt : k < l.length
  ·obtain ⟨x, h4, h4d⟩ := hv.elem (List.getElem?_eq_getElem hlt)
   have hdl := tcells_length l[k].data
   have hdle := h4d.le
   have hlo := hx.size
   (repeat' first | ((with_reducible refine nx0 ?_); go_step) | ((with_reducible refine o_s ?_); first | refine wk0 ?_ | (refine wg0 ?_ ?_ <;> intro hc)) | fail)
   refine wpl_allocB (z := zset) rfl (by decide +kernel) ?_
   intro w5 x5 s5 h5
   (repeat' first | ((with_reducible refine nx0 ?_); go_step) | ((with_reducible refine o_s ?_); first | refine wk0 ?_ | (refine wg0 ?_ ?_ <;> intro hc)) | fail)
   refine wpl_storeB (v := .agg #[str l[k].name, .int .i64 l[k].kind, .int .i64 l[k].ttl, x]) rfl rfl rfl h5 (show sizeTy Tryz.prog 115 4 = true by decide +kernel) rfl (all4 rfl rfl rfl h4d.one) ?_
   intro w6 p6
   have x6 : Ext wr w6 := x5.move p6.mv (by rintro k ⟨⟩; exact Nat.le_refl _)
   have b6 : w6.heap[wr.heap.size]? = some (.cells [str l[k].name, .int .i64 l[k].kind, .int .i64 l[k].ttl, x].toArray 115 (0, 0)) := p6.this
   have z6 : wr.heap.size < w6.heap.size := by have := p6.size; omega
   have o6 := ho.ext x6
   have xw6 := hx.trans x6
   have hne6 : u3.ownBlock ≠ some wr.heap.size := fun e => by have := ho.block _ e; omega
   clear p6 h5 x5 s5
   have hp6 := pts_block b6
   (repeat' first | ((with_reducible refine nx0 ?_); go_step) | ((with_reducible refine o_s ?_); first | refine wk0 ?_ | (refine wg0 ?_ ?_ <;> intro hc)) | fail)
   clear hp6
   generalize wr.heap.size = b at b6 z6 hne6 hlo ⊢
   go_loopw [3, 7, 17] (fun o _ i wq => ∃ j : Nat, j ≤ l[k].data.length ∧ i = .int .i64 j ∧ Ext w wq ∧ b < wq.heap.size ∧ wq.heap[b]? = some (.cells [str l[k].name, .int .i64 l[k].kind, .int .i64 l[k].ttl, x].toArray 115 (0, 0)) ∧ o.ownBlock ≠ some b ∧ Own w.heap.size 4 81 wq o (rcells (recsP l k ++ (l[k].data.take j).map (recOf l[k])))) (fun _ _ i _ => l[k].data.length - (intOf i).toNat)
   case atStart => exact ⟨0, Nat.zero_le _, rfl, xw6, z6, b6, hne6, by simpa using o6⟩
   case round =>
    obtain ⟨j, hj, rfl, hxq, hz, hbq, hne, hoq⟩ := hrel
    have hpq := pts_block hbq
    by_cases hlt2 : j < l[k].data.length
    ·have h3 := h4d.elem (tcells_at hlt2)
     have hle1 := recsP_le l (k + 1)
     rw [recsP_succ hlt, List.length_append] at hle1
     have hle2 : (recsOf l[k]).length = l[k].data.length := by simp [recsOf]
     have hcl : (rcells (recsP l k ++ (l[k].data.take j).map (recOf l[k]))).length = (recsP l k).length + j := by simp [rcells]; omega
     (repeat' first | ((with_reducible refine nx0 ?_); go_step) | ((with_reducible refine o_s ?_); first | refine wk0 ?_ | (refine wg0 ?_ ?_ <;> intro hc)) | fail)
     refine wpl_callV (enters_of Tryz.func134 rfl rfl) rfl rfl (t22 l[k] x l[k].data[j] _) ?_; intro w7 x7; refine gset ?_
     (repeat' first | ((with_reducible refine nx0 ?_); go_step) | ((with_reducible refine o_s ?_); first | refine wk0 ?_ | (refine wg0 ?_ ?_ <;> intro hc)) | fail)
     refine wpl_slice (e := 81) (k := 4) (bytes := 48) (xs := [.agg #[str l[k].name, .int .i64 l[k].kind, .int .i64 l[k].ttl, str l[k].data[j]]]) rfl rfl rfl (by simp [Value.cells]) (by decide +kernel) (by simp) ?_
     intro v8 w8 x8 s8 sl8 _
     refine gset ?_
     (repeat' first | ((with_reducible refine nx0 ?_); go_step) | ((with_reducible refine o_s ?_); first | refine wk0 ?_ | (refine wg0 ?_ ?_ <;> intro hc)) | fail)
     refine wpl_appendK (B := w.heap.size) (e := 81) (k := 4) (bytes := 48) rfl (hoq.ext (x7.trans x8)) rfl sl8 (by decide +kernel) (by simp [Value.cells, str, Value.oneCell']) (by have := hxq.size; have := x7.size; omega) (by rw [hcl]; simp; omega) (by rw [hcl]; simp; omega) ?_
     intro v9 w9 o9 m9 k9
     have hb8 := (x7.trans x8).at hbq
     have hb9 := m9.at hb8 (fun e => hne e.symm)
     have x9 : Ext w w9 := (hoq.ext (x7.trans x8)).mvx m9 (hxq.trans (x7.trans x8)) (Nat.le_refl _)
     (repeat' first | ((with_reducible refine nx0 ?_); go_step) | ((with_reducible refine o_s ?_); first | refine wk0 ?_ | (refine wg0 ?_ ?_ <;> intro hc)) | fail)
     refine ⟨⟨j + 1, by omega, rfl, x9, ?_, hb9, ?_, ?_⟩, by simp [intOf]; omega⟩
     ·have := x7.size; have := x8.size; have := m9.size; omega
     ·rcases k9 with h | h
      ·rw [h]; exact hne
      ·rw [h]; intro e; have := Option.some.inj e; have := x7.size; omega
     ·rw [map_take_succ hlt2, ← List.append_assoc]
      simpa [rcells, recOf, Rec.cells, Value.cells] using o9
    ·have hj2 : j = l[k].data.length := by omega
     subst hj2
     (repeat' first | ((with_reducible refine nx0 ?_); go_step) | ((with_reducible refine o_s ?_); first | refine wk0 ?_ | (refine wg0 ?_ ?_ <;> intro hc)) | fail)
     exact ⟨⟨k + 1, by omega, rfl, hxq, by rw [recsP_succ hlt]; rw [List.take_length] at hoq; exact hoq⟩, by simp [intOf]; omega⟩
  ·have hk2 : k = l.length := by omega
   subst hk2
   (repeat' first | ((with_reducible refine nx0 ?_); go_step) | ((with_reducible refine o_s ?_); first | refine wk0 ?_ | (refine wg0 ?_ ?_ <;> intro hc)) | fail)
   go_ret
   refine ⟨_, rfl, hx, ?_⟩
   rw [recsP_all] at ho
   exact ho
end Go.Proofs.X
