/- Laws and walks that the proof of the statement is made of (part 9). -/
import Derived.Test.YtoajkilickakiaaGreatProg
import Derived.Lib.Hide
import Derived.Test.YtoajkilickakiaaGreatShelf
import Derived.Shelf.SlSortCmp.NoneTotal
import Derived.OwnWalk
import Derived.Shelf.RegionOpenPlain
import Derived.Lib.Strings
import Derived.Lib.Slices
import Derived.Lib.Walk
import Derived.Lib.Builder
import Derived.Lib.AppendStr
import Derived.Lib.UnsafeStr
import Derived.Lib.MakeNoZero
import Derived.WalkKit
import Derived.Laws.Externs
import Derived.Laws.IdiomCopy
import Derived.Laws.BitsLemmas
import GoSem.Claims
import Derived.Test.YtoajkilickakiaaGreatP1
import Derived.Test.YtoajkilickakiaaGreatP2
import Derived.Test.YtoajkilickakiaaGreatP3
import Derived.Test.YtoajkilickakiaaGreatP4
import Derived.Test.YtoajkilickakiaaGreatP5
import Derived.Test.YtoajkilickakiaaGreatP6
import Derived.Test.YtoajkilickakiaaGreatP8
set_option linter.unusedSimpArgs false
set_option linter.unusedVariables false
namespace Go.Proofs.X
open Go.RowKit
set_option maxRecDepth 100000
def icells (l : List Int) : List (List Value) := l.map fun n => [.int .i64 n]
theorem icells_at {l : List Int} {k : Nat} (h : k < l.length) : (icells l)[k]? = some [.int .i64 l[k]] := by simp [icells, h]
theorem r3_WideI (m : Int) (w : World) (h0 : 0 ≤ m) (h1 : m < 4294967296) : Calls Tryz.prog 184 #[.int .i64 m, .int .i64 4] w (RetV w (str (be4 m.toNat))) := by
  obtain ⟨n, rfl⟩ := Int.eq_ofNat_of_zero_le h0
  rw [Int.toNat_natCast]
  exact r3_Wide n w (by omega)
theorem be4_len (n : Nat) : (be4 n).length = 4 := rfl
set_option maxHeartbeats 4000000 in
theorem r3_Soa (s : SoaR) (w : World) (h1 : s.main.length ≤ 4611686018427387904) (h2 : s.mail.length ≤ 4611686018427387904) : Calls Tryz.prog 153 #[.agg s.cells.toArray] w (RetV w (if s.ok = true then .tuple #[str s.data, .int .i64 0] else .tuple #[str [], .int .i64 1])) := by
  have hA := fun w => r3_Host s.main w (by omega)
  have hB := fun w => r3_Host s.mail w (by omega)
  rw [soa_ok]
  cases hm : (labels s.main).isSome with
  | false =>
    simp only [hm, Bool.false_eq_true, ↓reduceIte] at hA
    go_enter Tryz.func153, Tryz.ntmps153
    repeat' ((fail_if_success (with_reducible refine o_s ?_)); go_step)
    refine wpl_box (vs := s.cells) rfl rfl ?_
    intro p w1 x1 hp
    refine gset ?_
    have hp' : Pts w1 p [str s.main, str s.mail, .int .i64 s.serial, .int .i64 s.refresh, .int .i64 s.retry, .int .i64 s.expire, .int .i64 s.minimum] := hp
    repeat' (first | ((with_reducible refine o_s ?_); (first | (refine o_1 ?_; refine o_2 ?_) | (refine o_g ?_; first | refine o_u ?_ | refine o_k ?_ | refine o_n ?_ | refine o_v ?_ | ((first | refine o_G ?_ ?_ | refine o_N ?_ ?_) <;> intro hc)))) | ((fail_if_success (with_reducible refine o_s ?_)); go_step))
    refine wpl_callV (enters_of Tryz.func183 rfl rfl) rfl rfl (hA _) ?_; intro w2 x2; refine gset ?_
    have hp' := hp'.ext x2
    repeat' (first | ((with_reducible refine o_s ?_); (first | (refine o_1 ?_; refine o_2 ?_) | (refine o_g ?_; first | refine o_u ?_ | refine o_k ?_ | refine o_n ?_ | refine o_v ?_ | ((first | refine o_G ?_ ?_ | refine o_N ?_ ?_) <;> intro hc)))) | ((fail_if_success (with_reducible refine o_s ?_)); go_step))
    refine wpl_callV (enters_of Tryz.func183 rfl rfl) rfl rfl (hB _) ?_; intro w3 x3; refine gset ?_
    cases hl : (labels s.mail).isSome
    all_goals
      have hp' := hp'.ext x3
      simp only [↓reduceIte, Bool.false_eq_true]
      repeat' (first | ((with_reducible refine o_s ?_); (first | (refine o_1 ?_; refine o_2 ?_) | (refine o_g ?_; first | refine o_u ?_ | refine o_k ?_ | refine o_n ?_ | refine o_v ?_ | ((first | refine o_G ?_ ?_ | refine o_N ?_ ?_) <;> intro hc)))) | ((fail_if_success (with_reducible refine o_s ?_)); go_step))
      go_ret2
      exact ⟨rfl, (x1.trans x2).trans x3⟩
  | true =>
    simp only [hm, ↓reduceIte] at hA
    cases hl : (labels s.mail).isSome with
    | false =>
      simp only [hl, Bool.false_eq_true, ↓reduceIte] at hB
      go_enter Tryz.func153, Tryz.ntmps153
      repeat' ((fail_if_success (with_reducible refine o_s ?_)); go_step)
      refine wpl_box (vs := s.cells) rfl rfl ?_
      intro p w1 x1 hp
      refine gset ?_
      have hp' : Pts w1 p [str s.main, str s.mail, .int .i64 s.serial, .int .i64 s.refresh, .int .i64 s.retry, .int .i64 s.expire, .int .i64 s.minimum] := hp
      repeat' (first | ((with_reducible refine o_s ?_); (first | (refine o_1 ?_; refine o_2 ?_) | (refine o_g ?_; first | refine o_u ?_ | refine o_k ?_ | refine o_n ?_ | refine o_v ?_ | ((first | refine o_G ?_ ?_ | refine o_N ?_ ?_) <;> intro hc)))) | ((fail_if_success (with_reducible refine o_s ?_)); go_step))
      refine wpl_callV (enters_of Tryz.func183 rfl rfl) rfl rfl (hA _) ?_; intro w2 x2; refine gset ?_
      have hp' := hp'.ext x2
      repeat' (first | ((with_reducible refine o_s ?_); (first | (refine o_1 ?_; refine o_2 ?_) | (refine o_g ?_; first | refine o_u ?_ | refine o_k ?_ | refine o_n ?_ | refine o_v ?_ | ((first | refine o_G ?_ ?_ | refine o_N ?_ ?_) <;> intro hc)))) | ((fail_if_success (with_reducible refine o_s ?_)); go_step))
      refine wpl_callV (enters_of Tryz.func183 rfl rfl) rfl rfl (hB _) ?_; intro w3 x3; refine gset ?_
      have hp' := hp'.ext x3
      repeat' (first | ((with_reducible refine o_s ?_); (first | (refine o_1 ?_; refine o_2 ?_) | (refine o_g ?_; first | refine o_u ?_ | refine o_k ?_ | refine o_n ?_ | refine o_v ?_ | ((first | refine o_G ?_ ?_ | refine o_N ?_ ?_) <;> intro hc)))) | ((fail_if_success (with_reducible refine o_s ?_)); go_step))
      go_ret2
      exact ⟨rfl, (x1.trans x2).trans x3⟩
    | true =>
      simp only [hl, ↓reduceIte] at hB
      obtain ⟨ls, hls⟩ := Option.isSome_iff_exists.1 hm
      obtain ⟨ms, hms⟩ := Option.isSome_iff_exists.1 hl
      have hfm := labels_fit hls
      have hfm2 := labels_fit hms
      simp only [Bool.true_and]
      go_enter Tryz.func153, Tryz.ntmps153
      repeat' ((fail_if_success (with_reducible refine o_s ?_)); go_step)
      refine wpl_box (vs := s.cells) rfl rfl ?_
      intro p w1 x1 hp
      refine gset ?_
      have hp' : Pts w1 p [str s.main, str s.mail, .int .i64 s.serial, .int .i64 s.refresh, .int .i64 s.retry, .int .i64 s.expire, .int .i64 s.minimum] := hp
      repeat' (first | ((with_reducible refine o_s ?_); (first | (refine o_1 ?_; refine o_2 ?_) | (refine o_g ?_; first | refine o_u ?_ | refine o_k ?_ | refine o_n ?_ | refine o_v ?_ | ((first | refine o_G ?_ ?_ | refine o_N ?_ ?_) <;> intro hc)))) | ((fail_if_success (with_reducible refine o_s ?_)); go_step))
      refine wpl_callV (enters_of Tryz.func183 rfl rfl) rfl rfl (hA _) ?_; intro w2 x2; refine gset ?_
      have hp' := hp'.ext x2
      repeat' (first | ((with_reducible refine o_s ?_); (first | (refine o_1 ?_; refine o_2 ?_) | (refine o_g ?_; first | refine o_u ?_ | refine o_k ?_ | refine o_n ?_ | refine o_v ?_ | ((first | refine o_G ?_ ?_ | refine o_N ?_ ?_) <;> intro hc)))) | ((fail_if_success (with_reducible refine o_s ?_)); go_step))
      refine wpl_callV (enters_of Tryz.func183 rfl rfl) rfl rfl (hB _) ?_; intro w3 x3; refine gset ?_
      have hp' := hp'.ext x3
      have x13 := (x1.trans x2).trans x3
      clear x1 x2 x3 hp hA hB
      repeat' (first | ((with_reducible refine o_s ?_); (first | (refine o_1 ?_; refine o_2 ?_) | (refine o_g ?_; first | refine o_u ?_ | refine o_k ?_ | refine o_n ?_ | refine o_v ?_ | ((first | refine o_G ?_ ?_ | refine o_N ?_ ?_) <;> intro hc)))) | ((fail_if_success (with_reducible refine o_s ?_)); go_step))
      rotate_left
      · have hc := ‹s.serial ≤ 4294967295›
        have hc0 := ‹¬s.serial < 0›
        have hser : (decide (0 ≤ s.serial) && decide (s.serial ≤ 4294967295)) = true := by simp; omega
        refine wpl_slice (e := 3) (k := 1) (bytes := 8) (xs := (soaNums s).map (.int .i64)) rfl rfl rfl (by intro x hx; obtain ⟨n, _, rfl⟩ := List.mem_map.1 hx; rfl) (by decide +kernel) (by simp [soaNums]) ?_
        intro v4 w4 x4 _ s4 _
        have s4 : Sl 1 w4 v4 (icells (soaNums s)) := by simpa [icells, soaNums, Value.cells] using s4
        refine gset ?_
        have hp' := hp'.ext x4
        repeat' (first | ((with_reducible refine o_s ?_); (first | (refine o_1 ?_; refine o_2 ?_) | (refine o_g ?_; first | refine o_u ?_ | refine o_k ?_ | refine o_n ?_ | refine o_v ?_ | ((first | refine o_G ?_ ?_ | refine o_N ?_ ?_) <;> intro hc)))) | ((fail_if_success (with_reducible refine o_s ?_)); go_step))
        refine wpl_callV (enters_of Tryz.func184 rfl rfl) rfl rfl (r3_WideI s.serial _ (by omega) (by omega)) ?_; intro w5 x5; refine gset ?_
        refine wpl_run rfl (Runs.addS rfl rfl (by simp [be4_len]; omega)) ?_
        refine gset ?_
        repeat' (first | ((with_reducible refine o_s ?_); (first | (refine o_1 ?_; refine o_2 ?_) | (refine o_g ?_; first | refine o_u ?_ | refine o_k ?_ | refine o_n ?_ | refine o_v ?_ | ((first | refine o_G ?_ ?_ | refine o_N ?_ ?_) <;> intro hc)))) | ((fail_if_success (with_reducible refine o_s ?_)); go_step))
        have x15 := (x13.trans x4).trans x5
        have s5 := s4.ext x5
        have hb0 : (soaBase s).length ≤ 600 := by simp [soaBase, be4_len]; omega
        rw [show s.main ++ [0] ++ (s.mail ++ [0]) ++ be4 s.serial.toNat = soaBase s from rfl]
        have hlen : (soaNums s).length = 4 := rfl
        have hlen2 : (icells (soaNums s)).length = 4 := rfl
        clear s4 x4 hp' x5
        go_loopw [9, 10] (fun o i wr => ∃ k : Nat, k ≤ 4 ∧ i = .int .i64 k ∧ Ext w5 wr ∧ o = str (soaBase s ++ be4s ((soaNums s).take k)) ∧ ((soaNums s).take k).all ttlOk = true) (fun _ i _ => 4 - (intOf i).toNat)
        case atStart => exact ⟨0, by omega, rfl, Ext.refl _, by simp [be4s], rfl⟩
        case round =>
          obtain ⟨k, hk, rfl, hx, rfl, hall⟩ := hrel
          have hsl := s5.ext hx
          by_cases hlt : k < 4
          · have hlt2 : k < (soaNums s).length := hlt
            have hp := hsl.elem (icells_at hlt2)
            have hsplit : (soaNums s).all ttlOk = true → ttlOk (soaNums s)[k] = true := fun h => List.all_eq_true.1 h _ (List.getElem_mem hlt2)
            have hbs : (be4s ((soaNums s).take k)).length ≤ 16 := by rw [be4s_len]; simp; omega
            repeat' (first | ((with_reducible refine o_s ?_); (first | (refine o_1 ?_; refine o_2 ?_) | (refine o_g ?_; first | refine o_u ?_ | refine o_k ?_ | refine o_n ?_ | refine o_v ?_ | ((first | refine o_G ?_ ?_ | refine o_N ?_ ?_) <;> intro hc)))) | ((fail_if_success (with_reducible refine o_s ?_)); go_step))
            rotate_left
            · refine wpl_callV (enters_of Tryz.func184 rfl rfl) rfl rfl (r3_WideI (soaNums s)[k] _ (by omega) (by omega)) ?_; intro w6 x6; refine gset ?_
              refine wpl_run rfl (Runs.addS rfl rfl (by simp [be4_len]; omega)) ?_
              refine gset ?_
              rw [show soaBase s ++ be4s ((soaNums s).take k) ++ be4 (soaNums s)[k].toNat = soaBase s ++ be4s ((soaNums s).take (k + 1)) by rw [be4s_succ _ _ hlt2, List.append_assoc]]
              repeat' (first | ((with_reducible refine o_s ?_); (first | (refine o_1 ?_; refine o_2 ?_) | (refine o_g ?_; first | refine o_u ?_ | refine o_k ?_ | refine o_n ?_ | refine o_v ?_ | ((first | refine o_G ?_ ?_ | refine o_N ?_ ?_) <;> intro hc)))) | ((fail_if_success (with_reducible refine o_s ?_)); go_step))
              refine ⟨⟨k + 1, by omega, by go_num, hx.trans x6, rfl, ?_⟩, by simp [intOf]; omega⟩
              rw [List.take_add_one, List.getElem?_eq_getElem hlt2, Option.toList_some, List.all_append, hall]
              simp only [List.all_cons, List.all_nil, ttlOk, Bool.true_and, Bool.and_true, Bool.and_eq_true, decide_eq_true_eq]
              omega
            all_goals
              have hno : (soaNums s).all ttlOk = false := by
                cases h : (soaNums s).all ttlOk with
                | false => rfl
                | true => have := hsplit h; simp [ttlOk] at this; omega
              go_ret2
              refine ⟨?_, x15.trans hx⟩
              simp only [hser, hno, Bool.and_false, Bool.false_eq_true, if_false]
              rfl
          · have : k = 4 := by omega
            subst this
            rw [show (soaNums s).take 4 = soaNums s from rfl] at hall ⊢
            repeat' (first | ((with_reducible refine o_s ?_); (first | (refine o_1 ?_; refine o_2 ?_) | (refine o_g ?_; first | refine o_u ?_ | refine o_k ?_ | refine o_n ?_ | refine o_v ?_ | ((first | refine o_G ?_ ?_ | refine o_N ?_ ?_) <;> intro hc)))) | ((fail_if_success (with_reducible refine o_s ?_)); go_step))
            go_ret2
            refine ⟨?_, x15.trans hx⟩
            simp only [hser, hall, Bool.and_self, if_true]
            rw [soa_data]
            rfl
      all_goals
        have hno : (decide (0 ≤ s.serial) && decide (s.serial ≤ 4294967295)) = false := by simp only [Bool.and_eq_false_iff, decide_eq_false_iff_not]; omega
        go_ret2
        refine ⟨?_, x13⟩
        simp only [hno, Bool.false_and, Bool.false_eq_true, if_false]
        rfl

theorem numU4 {r : List UInt8} {i : Nat} (hr : r.length = 20) (hi : i < 5) : (numU ((r.take (4 * i + 4)).drop (4 * i)) 4 : Nat) = numP r i 4 := by
  have hl : ((r.take (4 * i + 4)).drop (4 * i)).length = 4 := by simp; omega
  have hg : ∀ k, k < 4 → ((r.take (4 * i + 4)).drop (4 * i)).getD k 0 = r.getD (4 * i + k) 0 := by
    intro k hk
    simp only [List.getD_eq_getElem?_getD, List.getElem?_drop, List.getElem?_take]
    rw [if_pos (by omega)]
  have h0 : numU ((r.take (4 * i + 4)).drop (4 * i)) 0 = 0 := rfl
  rw [numU_succ (by omega), numU_succ (by omega), numU_succ (by omega), numU_succ (by omega), h0, hg 0 (by omega), hg 1 (by omega), hg 2 (by omega), hg 3 (by omega)]
  simp only [numP]
  omega
theorem r3_Num4 (s : List UInt8) (w : World) (hl : s.length = 4) : Calls Tryz.prog 152 #[str s] w (RetV w (.int .i64 (numU s 4 : Nat))) := by
  have := r3_Number s w (by omega)
  rwa [hl] at this
theorem parseSoa_ref (d : List UInt8) : parseSoa d = if firstR d = 0 then none else if firstR (d.drop (firstR d)) = 0 ∨ d.length ≠ firstR d + firstR (d.drop (firstR d)) + 20 then none
    else if (soaOf d).ok = true then some (soaOf d) else none := by
  have hd := firstR_firstN d
  have he := firstR_firstN (d.drop (firstR d))
  by_cases h0 : firstR d = 0
  · rw [if_pos h0] at hd ⊢
    have : (firstN d).2.2 = false := by rw [hd]; split <;> rfl
    simp [parseSoa, this]
  · rw [if_neg h0] at hd ⊢
    have h1 : (firstN d).2.2 = true := by rw [hd]
    have h2 : (firstN d).2.1 = d.drop (firstR d) := by rw [hd]
    unfold parseSoa
    simp only [h1, h2, true_and]
    by_cases hm : firstR (d.drop (firstR d)) = 0
    · rw [if_pos hm] at he
      have : (firstN (d.drop (firstR d))).2.2 = false := by rw [he]; split <;> rfl
      simp [this, hm]
    · rw [if_neg hm] at he
      have h3 : (firstN (d.drop (firstR d))).2.2 = true := by rw [he]
      have h4 : (firstN (d.drop (firstR d))).2.1 = (d.drop (firstR d)).drop (firstR (d.drop (firstR d))) := by rw [he]
      have l1 := firstR_le d
      have l2 := firstR_le (d.drop (firstR d))
      rw [List.length_drop] at l2
      simp only [h3, h4, true_and, hm, false_or, List.length_drop]
      by_cases hl : d.length = firstR d + firstR (d.drop (firstR d)) + 20
      · have : d.length - firstR d - firstR (d.drop (firstR d)) = 20 := by omega
        simp [hl, this]
        rw [← hl]
        simp [this]
      · have : ¬ d.length - firstR d - firstR (d.drop (firstR d)) = 20 := by omega
        simp [hl, this]
theorem r3_NumAt (r : List UInt8) (i : Nat) (w : World) (hr : r.length = 20) (hi : i < 5) : Calls Tryz.prog 152 #[str ((r.take (4 * i + 4)).drop (4 * i))] w (RetV w (.int .i64 (numP r i 4 : Nat))) := by
  rw [← numU4 hr hi]
  exact r3_Num4 _ w (by simp; omega)
set_option maxHeartbeats 24000000 in
theorem r3_ParseSoa (d : List UInt8) (w : World) (hl : d.length ≤ 4611686018427387904) : Calls Tryz.prog 110 #[str d] w (RetV w (match parseSoa d with | some s => .tuple #[.agg s.cells.toArray, .int .i64 0] | none => .tuple #[.agg zeroSoa.toArray, .int .i64 2])) := by
  have hps := parseSoa_ref d
  have l1 := firstR_le d
  have l2 := firstR_le (d.drop (firstR d))
  rw [List.length_drop] at l2
  have hd := firstR_firstN d
  have he := firstR_firstN (d.drop (firstR d))
  go_enter Tryz.func110, Tryz.ntmps110
  repeat' ((fail_if_success (with_reducible refine o_s ?_)); go_step)
  refine wpl_allocB (z := zeroSoa) rfl (by decide +kernel) ?_
  intro w1 x1 s1 h1
  refine gset ?_
  repeat' (first | ((with_reducible refine o_s ?_); (first | (refine o_1 ?_; refine o_2 ?_) | (refine o_g ?_; first | refine o_u ?_ | refine o_k ?_ | refine o_n ?_ | refine o_v ?_ | ((first | refine o_G ?_ ?_ | refine o_N ?_ ?_) <;> intro hc)))) | ((fail_if_success (with_reducible refine o_s ?_)); go_step))
  refine wpl_callV (enters_of Tryz.func151 rfl rfl) rfl rfl (r3_first d _ hl) ?_; intro w2 x2; refine gset ?_
  have h1 := x2.at h1
  have x12 := x1.trans x2
  repeat' (first | ((with_reducible refine o_s ?_); (first | (refine o_1 ?_; refine o_2 ?_) | (refine o_g ?_; first | refine o_u ?_ | refine o_k ?_ | refine o_n ?_ | refine o_v ?_ | ((first | refine o_G ?_ ?_ | refine o_N ?_ ?_) <;> intro hc)))) | ((fail_if_success (with_reducible refine o_s ?_)); go_step))
  · have hz := ‹((firstR d : Nat) : Int) = 0›
    refine wpl_run (v := .agg zeroSoa.toArray) rfl (Runs.build (parts := []) (vals := []) rfl (by kernel_rfl)) ?_
    refine gset ?_
    refine wpl_storeB (v := .agg zeroSoa.toArray) rfl rfl rfl h1 (by decide +kernel) rfl (by decide +kernel) ?_
    intro w7 p7
    have x7 : Ext w w7 := x12.move p7.mv (by rintro k ⟨⟩; omega)
    have h17 : w7.heap[w.heap.size]? = some (.cells zeroSoa.toArray 103 (0, 0)) := p7.this
    repeat' (first | ((with_reducible refine o_s ?_); (first | (refine o_1 ?_; refine o_2 ?_) | (refine o_g ?_; first | refine o_u ?_ | refine o_k ?_ | refine o_n ?_ | refine o_v ?_ | ((first | refine o_G ?_ ?_ | refine o_N ?_ ?_) <;> intro hc)))) | ((fail_if_success (with_reducible refine o_s ?_)); go_step))
    refine bodyPost_ret (results_cellT (cs := zeroSoa) rfl rfl h17 (by decide +kernel)) rfl ⟨?_, x7⟩
    rw [hps, if_pos (by omega)]
    rfl
  · have hz := ‹¬((firstR d : Nat) : Int) = 0›
    rw [if_neg (by omega)] at hps
    refine wpl_callV (enters_of Tryz.func151 rfl rfl) rfl rfl (r3_first (d.drop (firstR d)) _ (by simp; omega)) ?_; intro w3 x3; refine gset ?_
    have h1 := x3.at h1
    have x13 := x12.trans x3
    clear x1 x2 x3 x12
    have hsoa : (soaOf d).cells = [str (d.take (firstR d - 1)), str ((d.drop (firstR d)).take (firstR (d.drop (firstR d)) - 1)), .int .i64 (numP ((d.drop (firstR d)).drop (firstR (d.drop (firstR d)))) 0 4 : Nat), .int .i64 (numP ((d.drop (firstR d)).drop (firstR (d.drop (firstR d)))) 1 4 : Nat), .int .i64 (numP ((d.drop (firstR d)).drop (firstR (d.drop (firstR d)))) 2 4 : Nat), .int .i64 (numP ((d.drop (firstR d)).drop (firstR (d.drop (firstR d)))) 3 4 : Nat), .int .i64 (numP ((d.drop (firstR d)).drop (firstR (d.drop (firstR d)))) 4 4 : Nat)] ∨ firstR (d.drop (firstR d)) = 0 := by
      by_cases hm : firstR (d.drop (firstR d)) = 0
      · exact .inr hm
      · rw [if_neg (by omega)] at hd
        rw [if_neg hm] at he
        left
        simp only [SoaR.cells, soaOf, hd, he]
    repeat' (first | ((with_reducible refine o_s ?_); (first | (refine o_1 ?_; refine o_2 ?_) | (refine o_g ?_; first | refine o_u ?_ | refine o_k ?_ | refine o_n ?_ | refine o_v ?_ | ((first | refine o_G ?_ ?_ | refine o_N ?_ ?_) <;> intro hc)))) | ((fail_if_success (with_reducible refine o_s ?_)); go_step))
    rotate_left
    · have hm := ‹¬((firstR (d.drop (firstR d)) : Nat) : Int) = 0›
      have hlen := ‹(!decide ((d.length : Int) = ((firstR d : Nat) : Int) + ((firstR (d.drop (firstR d)) : Nat) : Int) + 20)) = false›
      have hlen : d.length = firstR d + firstR (d.drop (firstR d)) + 20 := by simp at hlen; omega
      rw [if_neg (by omega)] at hps
      have hsoa := hsoa.resolve_right (by omega)
      generalize hn : firstR d = n at *
      generalize hmm : firstR (d.drop n) = m at *
      have ht : (d.drop ((n : Int) + (m : Int)).toNat) = (d.drop n).drop m := by rw [List.drop_drop]; congr 1
      rw [ht]
      have htl : ((d.drop n).drop m).length = 20 := by simp; omega
      generalize hr : (d.drop n).drop m = r at *
      refine wph_region (S := fun w' => Ext w3 w') (by decide +kernel) ?_
      intro w4 x4 hh4
      refine tk 0 ?_; refine gset ?_; refine tk 1 ?_; refine gset ?_; refine tk 2 ?_; refine gset ?_; refine tk 3 ?_; refine gset ?_; refine tk 4 ?_; refine gset ?_; refine tk 5 ?_; refine gset ?_; refine tk 6 ?_; refine gset ?_; refine tk 7 ?_; refine gset ?_; refine tk 8 ?_; refine gset ?_; refine tk 9 ?_; refine gset ?_; refine tk 10 ?_; refine gset ?_; refine tk 11 ?_; refine gset ?_; refine tk 12 ?_; refine gset ?_; refine tk 14 ?_; refine gset ?_; refine tk 15 ?_; refine gset ?_; refine tk 17 ?_; refine gset ?_; refine tk 18 ?_; refine gset ?_; refine tk 20 ?_; refine gset ?_; refine tk 21 ?_; refine gset ?_; refine tk 23 ?_; refine gset ?_; refine tk 24 ?_; refine gset ?_
      have hx := x4
      have hA : d.take ((n : Int) - 1).toNat = d.take (n - 1) := by congr 1; omega
      rw [hA]
      have hB : (d.take ((n : Int) + (m : Int) - 1).toNat).drop n = (d.drop n).take (m - 1) := by
        rw [List.drop_take]; congr 1; omega
      rw [hB]
      apply meet2 (F := fun (b : Nat) w' => Ext w3 w' ∧ w4.heap.size ≤ b ∧ w'.heap[b]? = some (.cells zeroSoa.toArray 103 (0, 0)))
      · intro hG
        have hx0 := hx
        have hx : Ext w4 w4 := Ext.refl _
        refine wph_two (i := 13) (j := 27) (by decide +kernel) rfl rfl rfl ?_ ?_
        · refine wpl_callV (enters_of Tryz.func152 rfl rfl) rfl rfl (r3_NumAt r 0 _ htl (by omega)) ?_
          intro w_1 x_1
          have hx := hx.trans x_1
          refine gset ?_
          refine wph_nil ⟨hx0.trans hx, ?_⟩
          refine wph_two (i := 16) (j := 27) (by decide +kernel) rfl rfl rfl ?_ ?_
          · refine wpl_callV (enters_of Tryz.func152 rfl rfl) rfl rfl (r3_NumAt r 1 _ htl (by omega)) ?_
            intro w_2 x_2
            have hx := hx.trans x_2
            refine gset ?_
            refine wph_nil ⟨hx0.trans hx, ?_⟩
            refine wph_two (i := 19) (j := 27) (by decide +kernel) rfl rfl rfl ?_ ?_
            · refine wpl_callV (enters_of Tryz.func152 rfl rfl) rfl rfl (r3_NumAt r 2 _ htl (by omega)) ?_
              intro w_3 x_3
              have hx := hx.trans x_3
              refine gset ?_
              refine wph_nil ⟨hx0.trans hx, ?_⟩
              refine wph_two (i := 22) (j := 27) (by decide +kernel) rfl rfl rfl ?_ ?_
              · refine wpl_callV (enters_of Tryz.func152 rfl rfl) rfl rfl (r3_NumAt r 3 _ htl (by omega)) ?_
                intro w_4 x_4
                have hx := hx.trans x_4
                refine gset ?_
                refine wph_nil ⟨hx0.trans hx, ?_⟩
                refine wph_two (i := 25) (j := 27) (by decide +kernel) rfl rfl rfl ?_ ?_
                · refine wpl_callV (enters_of Tryz.func152 rfl rfl) rfl rfl (r3_NumAt r 4 _ htl (by omega)) ?_
                  intro w_5 x_5
                  have hx := hx.trans x_5
                  refine gset ?_
                  refine wph_nil ⟨hx0.trans hx, ?_⟩
                  refine wph_take (i := 26) (v := .agg (soaOf d).cells.toArray) rfl rfl (by decide +kernel) (by decide +kernel) (by decide +kernel) rfl (hx0.trans hx) (fun w' _ => by rw [hsoa]; exact Runs.build rfl (by kernel_rfl)) (fun _ _ _ h => h) ?_; refine gset ?_
                  refine wph_one (i := 27) (by decide +kernel) rfl rfl ?_
                  refine wpl_allocB (z := zeroSoa) rfl (by decide +kernel) ?_
                  intro w_6 x_6 s_6 ha
                  have hb := hx.size
                  have hx := hx.trans x_6
                  generalize w_5.heap.size = b at *
                  refine gset ?_
                  refine wph_nil ⟨hx0.trans hx, ?_⟩
                  exact hG _ _ ⟨hx0.trans hx, hb, ha⟩
                · refine wpl_allocB (z := zeroSoa) rfl (by decide +kernel) ?_
                  intro w_7 x_7 s_7 ha
                  have hb := hx.size
                  have hx := hx.trans x_7
                  generalize w_4.heap.size = b at *
                  refine gset ?_
                  refine wph_nil ⟨hx0.trans hx, ?_⟩
                  refine wph_one (i := 25) (by decide +kernel) rfl rfl ?_
                  refine wpl_callV (enters_of Tryz.func152 rfl rfl) rfl rfl (r3_NumAt r 4 _ htl (by omega)) ?_
                  intro w_8 x_8
                  have hx := hx.trans x_8
                  have ha := x_8.at ha
                  refine gset ?_
                  refine wph_nil ⟨hx0.trans hx, ?_⟩
                  refine wph_take (i := 26) (v := .agg (soaOf d).cells.toArray) rfl rfl (by decide +kernel) (by decide +kernel) (by decide +kernel) rfl (hx0.trans hx) (fun w' _ => by rw [hsoa]; exact Runs.build rfl (by kernel_rfl)) (fun _ _ _ h => h) ?_; refine gset ?_
                  exact hG _ _ ⟨hx0.trans hx, hb, ha⟩
              · refine wpl_allocB (z := zeroSoa) rfl (by decide +kernel) ?_
                intro w_9 x_9 s_9 ha
                have hb := hx.size
                have hx := hx.trans x_9
                generalize w_3.heap.size = b at *
                refine gset ?_
                refine wph_nil ⟨hx0.trans hx, ?_⟩
                refine wph_one (i := 22) (by decide +kernel) rfl rfl ?_
                refine wpl_callV (enters_of Tryz.func152 rfl rfl) rfl rfl (r3_NumAt r 3 _ htl (by omega)) ?_
                intro w_10 x_10
                have hx := hx.trans x_10
                have ha := x_10.at ha
                refine gset ?_
                refine wph_nil ⟨hx0.trans hx, ?_⟩
                refine wph_one (i := 25) (by decide +kernel) rfl rfl ?_
                refine wpl_callV (enters_of Tryz.func152 rfl rfl) rfl rfl (r3_NumAt r 4 _ htl (by omega)) ?_
                intro w_11 x_11
                have hx := hx.trans x_11
                have ha := x_11.at ha
                refine gset ?_
                refine wph_nil ⟨hx0.trans hx, ?_⟩
                refine wph_take (i := 26) (v := .agg (soaOf d).cells.toArray) rfl rfl (by decide +kernel) (by decide +kernel) (by decide +kernel) rfl (hx0.trans hx) (fun w' _ => by rw [hsoa]; exact Runs.build rfl (by kernel_rfl)) (fun _ _ _ h => h) ?_; refine gset ?_
                exact hG _ _ ⟨hx0.trans hx, hb, ha⟩
            · refine wpl_allocB (z := zeroSoa) rfl (by decide +kernel) ?_
              intro w_12 x_12 s_12 ha
              have hb := hx.size
              have hx := hx.trans x_12
              generalize w_2.heap.size = b at *
              refine gset ?_
              refine wph_nil ⟨hx0.trans hx, ?_⟩
              refine wph_one (i := 19) (by decide +kernel) rfl rfl ?_
              refine wpl_callV (enters_of Tryz.func152 rfl rfl) rfl rfl (r3_NumAt r 2 _ htl (by omega)) ?_
              intro w_13 x_13
              have hx := hx.trans x_13
              have ha := x_13.at ha
              refine gset ?_
              refine wph_nil ⟨hx0.trans hx, ?_⟩
              refine wph_one (i := 22) (by decide +kernel) rfl rfl ?_
              refine wpl_callV (enters_of Tryz.func152 rfl rfl) rfl rfl (r3_NumAt r 3 _ htl (by omega)) ?_
              intro w_14 x_14
              have hx := hx.trans x_14
              have ha := x_14.at ha
              refine gset ?_
              refine wph_nil ⟨hx0.trans hx, ?_⟩
              refine wph_one (i := 25) (by decide +kernel) rfl rfl ?_
              refine wpl_callV (enters_of Tryz.func152 rfl rfl) rfl rfl (r3_NumAt r 4 _ htl (by omega)) ?_
              intro w_15 x_15
              have hx := hx.trans x_15
              have ha := x_15.at ha
              refine gset ?_
              refine wph_nil ⟨hx0.trans hx, ?_⟩
              refine wph_take (i := 26) (v := .agg (soaOf d).cells.toArray) rfl rfl (by decide +kernel) (by decide +kernel) (by decide +kernel) rfl (hx0.trans hx) (fun w' _ => by rw [hsoa]; exact Runs.build rfl (by kernel_rfl)) (fun _ _ _ h => h) ?_; refine gset ?_
              exact hG _ _ ⟨hx0.trans hx, hb, ha⟩
          · refine wpl_allocB (z := zeroSoa) rfl (by decide +kernel) ?_
            intro w_16 x_16 s_16 ha
            have hb := hx.size
            have hx := hx.trans x_16
            generalize w_1.heap.size = b at *
            refine gset ?_
            refine wph_nil ⟨hx0.trans hx, ?_⟩
            refine wph_one (i := 16) (by decide +kernel) rfl rfl ?_
            refine wpl_callV (enters_of Tryz.func152 rfl rfl) rfl rfl (r3_NumAt r 1 _ htl (by omega)) ?_
            intro w_17 x_17
            have hx := hx.trans x_17
            have ha := x_17.at ha
            refine gset ?_
            refine wph_nil ⟨hx0.trans hx, ?_⟩
            refine wph_one (i := 19) (by decide +kernel) rfl rfl ?_
            refine wpl_callV (enters_of Tryz.func152 rfl rfl) rfl rfl (r3_NumAt r 2 _ htl (by omega)) ?_
            intro w_18 x_18
            have hx := hx.trans x_18
            have ha := x_18.at ha
            refine gset ?_
            refine wph_nil ⟨hx0.trans hx, ?_⟩
            refine wph_one (i := 22) (by decide +kernel) rfl rfl ?_
            refine wpl_callV (enters_of Tryz.func152 rfl rfl) rfl rfl (r3_NumAt r 3 _ htl (by omega)) ?_
            intro w_19 x_19
            have hx := hx.trans x_19
            have ha := x_19.at ha
            refine gset ?_
            refine wph_nil ⟨hx0.trans hx, ?_⟩
            refine wph_one (i := 25) (by decide +kernel) rfl rfl ?_
            refine wpl_callV (enters_of Tryz.func152 rfl rfl) rfl rfl (r3_NumAt r 4 _ htl (by omega)) ?_
            intro w_20 x_20
            have hx := hx.trans x_20
            have ha := x_20.at ha
            refine gset ?_
            refine wph_nil ⟨hx0.trans hx, ?_⟩
            refine wph_take (i := 26) (v := .agg (soaOf d).cells.toArray) rfl rfl (by decide +kernel) (by decide +kernel) (by decide +kernel) rfl (hx0.trans hx) (fun w' _ => by rw [hsoa]; exact Runs.build rfl (by kernel_rfl)) (fun _ _ _ h => h) ?_; refine gset ?_
            exact hG _ _ ⟨hx0.trans hx, hb, ha⟩
        · refine wpl_allocB (z := zeroSoa) rfl (by decide +kernel) ?_
          intro w_21 x_21 s_21 ha
          have hb := hx.size
          have hx := hx.trans x_21
          generalize w4.heap.size = b at *
          refine gset ?_
          refine wph_nil ⟨hx0.trans hx, ?_⟩
          refine wph_one (i := 13) (by decide +kernel) rfl rfl ?_
          refine wpl_callV (enters_of Tryz.func152 rfl rfl) rfl rfl (r3_NumAt r 0 _ htl (by omega)) ?_
          intro w_22 x_22
          have hx := hx.trans x_22
          have ha := x_22.at ha
          refine gset ?_
          refine wph_nil ⟨hx0.trans hx, ?_⟩
          refine wph_one (i := 16) (by decide +kernel) rfl rfl ?_
          refine wpl_callV (enters_of Tryz.func152 rfl rfl) rfl rfl (r3_NumAt r 1 _ htl (by omega)) ?_
          intro w_23 x_23
          have hx := hx.trans x_23
          have ha := x_23.at ha
          refine gset ?_
          refine wph_nil ⟨hx0.trans hx, ?_⟩
          refine wph_one (i := 19) (by decide +kernel) rfl rfl ?_
          refine wpl_callV (enters_of Tryz.func152 rfl rfl) rfl rfl (r3_NumAt r 2 _ htl (by omega)) ?_
          intro w_24 x_24
          have hx := hx.trans x_24
          have ha := x_24.at ha
          refine gset ?_
          refine wph_nil ⟨hx0.trans hx, ?_⟩
          refine wph_one (i := 22) (by decide +kernel) rfl rfl ?_
          refine wpl_callV (enters_of Tryz.func152 rfl rfl) rfl rfl (r3_NumAt r 3 _ htl (by omega)) ?_
          intro w_25 x_25
          have hx := hx.trans x_25
          have ha := x_25.at ha
          refine gset ?_
          refine wph_nil ⟨hx0.trans hx, ?_⟩
          refine wph_one (i := 25) (by decide +kernel) rfl rfl ?_
          refine wpl_callV (enters_of Tryz.func152 rfl rfl) rfl rfl (r3_NumAt r 4 _ htl (by omega)) ?_
          intro w_26 x_26
          have hx := hx.trans x_26
          have ha := x_26.at ha
          refine gset ?_
          refine wph_nil ⟨hx0.trans hx, ?_⟩
          refine wph_take (i := 26) (v := .agg (soaOf d).cells.toArray) rfl rfl (by decide +kernel) (by decide +kernel) (by decide +kernel) rfl (hx0.trans hx) (fun w' _ => by rw [hsoa]; exact Runs.build rfl (by kernel_rfl)) (fun _ _ _ h => h) ?_; refine gset ?_
          exact hG _ _ ⟨hx0.trans hx, hb, ha⟩
      · intro b w5 hF
        obtain ⟨x5, hbb, h5⟩ := hF
        have hsz := x4.size
        have hs1 : w.heap.size < w3.heap.size := (Array.getElem?_eq_some_iff.1 h1).1
        refine wph_one (i := 28) (by decide +kernel) rfl rfl ?_
        refine wpl_storeB (v := .agg (soaOf d).cells.toArray) rfl rfl rfl h5 (show sizeTy Tryz.prog 103 7 = true by decide +kernel) rfl (by rw [hsoa]; simp [Value.cells, Value.oneCell', str]) ?_
        intro w6 p6
        have h16 := p6.at (x5.at h1) (by omega)
        have x36 : Ext w3 w6 := x5.move p6.mv (by rintro k ⟨⟩; omega)
        have x6 := x13.trans x36
        have hb6 : w6.heap[b]? = some (.cells (soaOf d).cells.toArray 103 (0, 0)) := p6.this
        refine wph_nil ⟨x36, ?_⟩
        refine wph_done (by decide +kernel) ?_
        have hp6 := pts_block hb6
        clear p6 h5 x5 hx x4 h1
        repeat' (first | ((with_reducible refine o_s ?_); (first | (refine o_1 ?_; refine o_2 ?_) | (refine o_g ?_; first | refine o_u ?_ | refine o_k ?_ | refine o_n ?_ | refine o_v ?_ | ((first | refine o_G ?_ ?_ | refine o_N ?_ ?_) <;> intro hc)))) | ((fail_if_success (with_reducible refine o_s ?_)); go_step))
        refine wpl_run (v := .agg (soaOf d).cells.toArray) rfl (Runs.loadN (n := 7) hp6 rfl (by decide +kernel)) ?_
        refine gset ?_
        have hm1 : (soaOf d).main.length ≤ 4611686018427387904 := by
          have := congrArg (fun c : List Value => strLen (c.getD 0 undef)) hsoa
          simp only [SoaR.cells, List.getD_cons_zero, strLen_str] at this
          rw [this]; simp; omega
        have hm2 : (soaOf d).mail.length ≤ 4611686018427387904 := by
          have := congrArg (fun c : List Value => strLen (c.getD 1 undef)) hsoa
          simp only [SoaR.cells, List.getD_cons_zero, List.getD_cons_succ, strLen_str] at this
          rw [this]; simp; omega
        refine wpl_callV (enters_of Tryz.func153 rfl rfl) rfl rfl (r3_Soa (soaOf d) _ hm1 hm2) ?_; intro w7 x7; refine gset ?_
        have h16 := x7.at h16
        have hb6 := x7.at hb6
        have x6 := x6.trans x7
        have hp6 := hp6.ext x7
        cases hok : (soaOf d).ok with
        | false =>
          simp only [hok, Bool.false_eq_true, if_false] at hps ⊢
          repeat' (first | ((with_reducible refine o_s ?_); (first | (refine o_1 ?_; refine o_2 ?_) | (refine o_g ?_; first | refine o_u ?_ | refine o_k ?_ | refine o_n ?_ | refine o_v ?_ | ((first | refine o_G ?_ ?_ | refine o_N ?_ ?_) <;> intro hc)))) | ((fail_if_success (with_reducible refine o_s ?_)); go_step))
          refine wpl_run (v := .agg zeroSoa.toArray) rfl (Runs.build (parts := []) (vals := []) rfl (by kernel_rfl)) ?_
          refine gset ?_
          refine wpl_storeB (v := .agg zeroSoa.toArray) rfl rfl rfl h16 (by decide +kernel) rfl (by decide +kernel) ?_
          intro w8 p8
          have x8 : Ext w w8 := x6.move p8.mv (by rintro k ⟨⟩; omega)
          have h18 : w8.heap[w.heap.size]? = some (.cells zeroSoa.toArray 103 (0, 0)) := p8.this
          repeat' (first | ((with_reducible refine o_s ?_); (first | (refine o_1 ?_; refine o_2 ?_) | (refine o_g ?_; first | refine o_u ?_ | refine o_k ?_ | refine o_n ?_ | refine o_v ?_ | ((first | refine o_G ?_ ?_ | refine o_N ?_ ?_) <;> intro hc)))) | ((fail_if_success (with_reducible refine o_s ?_)); go_step))
          refine bodyPost_ret (results_cellT (cs := zeroSoa) rfl rfl h18 (by decide +kernel)) rfl ⟨?_, x8⟩
          rw [hps]
          rfl
        | true =>
          simp only [hok, if_true] at hps ⊢
          repeat' (first | ((with_reducible refine o_s ?_); (first | (refine o_1 ?_; refine o_2 ?_) | (refine o_g ?_; first | refine o_u ?_ | refine o_k ?_ | refine o_n ?_ | refine o_v ?_ | ((first | refine o_G ?_ ?_ | refine o_N ?_ ?_) <;> intro hc)))) | ((fail_if_success (with_reducible refine o_s ?_)); go_step))
          refine wpl_run (v := .agg (soaOf d).cells.toArray) rfl (Runs.loadN (n := 7) hp6 rfl (by decide +kernel)) ?_
          refine gset ?_
          refine wpl_storeB (v := .agg (soaOf d).cells.toArray) rfl rfl rfl h16 (show sizeTy Tryz.prog 103 7 = true by decide +kernel) rfl (by rw [hsoa]; simp [Value.cells, Value.oneCell', str]) ?_
          intro w8 p8
          have x8 : Ext w w8 := x6.move p8.mv (by rintro k ⟨⟩; omega)
          have h18 : w8.heap[w.heap.size]? = some (.cells (soaOf d).cells.toArray 103 (0, 0)) := p8.this
          repeat' (first | ((with_reducible refine o_s ?_); (first | (refine o_1 ?_; refine o_2 ?_) | (refine o_g ?_; first | refine o_u ?_ | refine o_k ?_ | refine o_n ?_ | refine o_v ?_ | ((first | refine o_G ?_ ?_ | refine o_N ?_ ?_) <;> intro hc)))) | ((fail_if_success (with_reducible refine o_s ?_)); go_step))
          refine bodyPost_ret (results_cellT (cs := (soaOf d).cells) rfl rfl h18 (show aggTy Tryz.prog 103 7 = true by decide +kernel)) rfl ⟨?_, x8⟩
          rw [hps]
          rfl
    all_goals
      refine wpl_run (v := .agg zeroSoa.toArray) rfl (Runs.build (parts := []) (vals := []) rfl (by kernel_rfl)) ?_
      refine gset ?_
      refine wpl_storeB (v := .agg zeroSoa.toArray) rfl rfl rfl h1 (by decide +kernel) rfl (by decide +kernel) ?_
      intro w7 p7
      have x7 : Ext w w7 := x13.move p7.mv (by rintro k ⟨⟩; omega)
      have h17 : w7.heap[w.heap.size]? = some (.cells zeroSoa.toArray 103 (0, 0)) := p7.this
      repeat' (first | ((with_reducible refine o_s ?_); (first | (refine o_1 ?_; refine o_2 ?_) | (refine o_g ?_; first | refine o_u ?_ | refine o_k ?_ | refine o_n ?_ | refine o_v ?_ | ((first | refine o_G ?_ ?_ | refine o_N ?_ ?_) <;> intro hc)))) | ((fail_if_success (with_reducible refine o_s ?_)); go_step))
      refine bodyPost_ret (results_cellT (cs := zeroSoa) rfl rfl h17 (by decide +kernel)) rfl ⟨?_, x7⟩
      have hbad : firstR (d.drop (firstR d)) = 0 ∨ d.length ≠ firstR d + firstR (d.drop (firstR d)) + 20 := by
        first
          | exact .inl (by omega)
          | exact .inr (by have hq := ‹(!decide ((d.length : Int) = ((firstR d : Nat) : Int) + ((firstR (d.drop (firstR d)) : Nat) : Int) + 20)) = true›; simp at hq; omega)
      rw [hps, if_pos hbad]
      rfl

theorem fits_host (k : Int) (d : List UInt8) : decide ((parseHost k d).2 ≠ 2) = (decide (ahead k < 0) || (decide (ahead k ≤ (d.length : Int)) && (hostN (d.drop (ahead k).toNat)).isSome)) := by
  unfold parseHost
  by_cases h1 : ahead k < 0
  · simp [h1]
  · by_cases h2 : (d.length : Int) < ahead k
    · simp [h1, h2]; omega
    · rw [if_neg h1, if_neg h2]
      cases hh : hostN (d.drop (ahead k).toNat) with
      | none => simp [h1]
      | some n => simp [h1]; omega
set_option maxHeartbeats 12000000 in
theorem r3_data (k : Int) (d : List UInt8) (w : World) (hl : d.length ≤ 4611686018427387904) : Calls Tryz.prog 185 #[.int .i64 k, str d] w (RetV w (.bool (decide (d.length ≤ 4000) && fits k d))) := by
  go_enter Tryz.func185, Tryz.ntmps185
  repeat' (first | ((with_reducible refine o_s ?_); (first | (refine o_1 ?_; refine o_2 ?_) | (refine o_g ?_; first | refine o_u ?_ | refine o_k ?_ | refine o_n ?_ | refine o_v ?_ | ((first | refine o_G ?_ ?_ | refine o_N ?_ ?_) <;> intro hc)))) | ((fail_if_success (with_reducible refine o_s ?_)); go_step))
  · have h4 := ‹4000 < (d.length : Int)›
    go_ret
    exact ⟨by rw [decide_eq_false (show ¬ d.length ≤ 4000 by omega)]; rfl, Ext.refl _⟩
  · have h4 := ‹(d.length : Int) ≤ 4000›
    have hk := ‹k = 1›
    go_ret
    refine ⟨?_, Ext.refl _⟩
    rw [decide_eq_true (show d.length ≤ 4000 by omega), fits, if_pos hk]
    simp; omega
  · have h4 := ‹(d.length : Int) ≤ 4000›
    have hk := ‹k = 28›
    subst hk
    go_ret
    refine ⟨?_, Ext.refl _⟩
    rw [decide_eq_true (show d.length ≤ 4000 by omega)]
    simp [fits]; omega
  · have h4 := ‹(d.length : Int) ≤ 4000›
    have hk := ‹k = 6›
    subst hk
    have hf : (decide (d.length ≤ 4000) && fits 6 d) = (parseSoa d).isSome := by
      rw [decide_eq_true (show d.length ≤ 4000 by omega)]; simp [fits]
    refine wpl_callV (enters_of Tryz.func110 rfl rfl) rfl rfl (r3_ParseSoa d _ hl) ?_; intro w1 x1; refine gset ?_
    cases hps : parseSoa d with
    | none =>
      repeat' (first | ((with_reducible refine o_s ?_); (first | (refine o_1 ?_; refine o_2 ?_) | (refine o_g ?_; first | refine o_u ?_ | refine o_k ?_ | refine o_n ?_ | refine o_v ?_ | ((first | refine o_G ?_ ?_ | refine o_N ?_ ?_) <;> intro hc)))) | ((fail_if_success (with_reducible refine o_s ?_)); go_step))
      refine wpl_allocB (z := zeroSoa) rfl (by decide +kernel) ?_
      intro w2 x2 s2 h2
      refine gset ?_
      refine wpl_storeB (v := .agg zeroSoa.toArray) rfl rfl rfl h2 (by decide +kernel) rfl (by decide +kernel) ?_
      intro w3 p3
      have x3 : Ext w w3 := (x1.trans x2).move p3.mv (by rintro k ⟨⟩; exact x1.size)
      repeat' (first | ((with_reducible refine o_s ?_); (first | (refine o_1 ?_; refine o_2 ?_) | (refine o_g ?_; first | refine o_u ?_ | refine o_k ?_ | refine o_n ?_ | refine o_v ?_ | ((first | refine o_G ?_ ?_ | refine o_N ?_ ?_) <;> intro hc)))) | ((fail_if_success (with_reducible refine o_s ?_)); go_step))
      go_ret
      exact ⟨by rw [hf, hps]; simp, x3⟩
    | some s =>
      repeat' (first | ((with_reducible refine o_s ?_); (first | (refine o_1 ?_; refine o_2 ?_) | (refine o_g ?_; first | refine o_u ?_ | refine o_k ?_ | refine o_n ?_ | refine o_v ?_ | ((first | refine o_G ?_ ?_ | refine o_N ?_ ?_) <;> intro hc)))) | ((fail_if_success (with_reducible refine o_s ?_)); go_step))
      refine wpl_allocB (z := zeroSoa) rfl (by decide +kernel) ?_
      intro w2 x2 s2 h2
      refine gset ?_
      refine wpl_storeB (v := .agg s.cells.toArray) rfl rfl rfl h2 (show sizeTy Tryz.prog 103 7 = true by decide +kernel) rfl (by simp [SoaR.cells, Value.cells, Value.oneCell', str]) ?_
      intro w3 p3
      have x3 : Ext w w3 := (x1.trans x2).move p3.mv (by rintro k ⟨⟩; exact x1.size)
      repeat' (first | ((with_reducible refine o_s ?_); (first | (refine o_1 ?_; refine o_2 ?_) | (refine o_g ?_; first | refine o_u ?_ | refine o_k ?_ | refine o_n ?_ | refine o_v ?_ | ((first | refine o_G ?_ ?_ | refine o_N ?_ ?_) <;> intro hc)))) | ((fail_if_success (with_reducible refine o_s ?_)); go_step))
      go_ret
      exact ⟨by rw [hf, hps]; simp, x3⟩
  · have h4 := ‹(d.length : Int) ≤ 4000›
    have hk := ‹k = 16›
    subst hk
    refine wpl_callV (enters_of Tryz.func216 rfl rfl) rfl rfl (r3_texts d _ hl) ?_; intro w1 x1; refine gset ?_
    repeat' (first | ((with_reducible refine o_s ?_); (first | (refine o_1 ?_; refine o_2 ?_) | (refine o_g ?_; first | refine o_u ?_ | refine o_k ?_ | refine o_n ?_ | refine o_v ?_ | ((first | refine o_G ?_ ?_ | refine o_N ?_ ?_) <;> intro hc)))) | ((fail_if_success (with_reducible refine o_s ?_)); go_step))
    go_ret
    refine ⟨?_, x1⟩
    rw [decide_eq_true (show d.length ≤ 4000 by omega)]
    simp [fits]
  · have h4 := ‹(d.length : Int) ≤ 4000›
    have q1 := ‹¬k = 1›
    have q2 := ‹¬k = 28›
    have q3 := ‹¬k = 6›
    have q4 := ‹¬k = 16›
    have hf : (decide (d.length ≤ 4000) && fits k d) = (decide (ahead k < 0) || (decide (ahead k ≤ (d.length : Int)) && (hostN (d.drop (ahead k).toNat)).isSome)) := by
      rw [decide_eq_true (show d.length ≤ 4000 by omega), ← fits_host]
      simp [fits, q1, q2, q3, q4]
    refine wpl_callV (enters_of Tryz.func217 rfl rfl) rfl rfl (r3_ahead k _) ?_; intro w1 x1; refine gset ?_
    generalize ahead k = a at *
    repeat' (first | ((with_reducible refine o_s ?_); (first | (refine o_1 ?_; refine o_2 ?_) | (refine o_g ?_; first | refine o_u ?_ | refine o_k ?_ | refine o_n ?_ | refine o_v ?_ | ((first | refine o_G ?_ ?_ | refine o_N ?_ ?_) <;> intro hc)))) | ((fail_if_success (with_reducible refine o_s ?_)); go_step))
    · have c1 := ‹¬a < 0›
      have c2 := ‹a ≤ (d.length : Int)›
      refine wpl_callV (enters_of Tryz.func182 rfl rfl) rfl rfl (r3_isHost (d.drop a.toNat) _ (by simp; omega)) ?_; intro w2 x2; refine gset ?_
      repeat' (first | ((with_reducible refine o_s ?_); (first | (refine o_1 ?_; refine o_2 ?_) | (refine o_g ?_; first | refine o_u ?_ | refine o_k ?_ | refine o_n ?_ | refine o_v ?_ | ((first | refine o_G ?_ ?_ | refine o_N ?_ ?_) <;> intro hc)))) | ((fail_if_success (with_reducible refine o_s ?_)); go_step))
      go_ret
      exact ⟨by rw [hf, decide_eq_false c1, decide_eq_true c2]; simp, x1.trans x2⟩
    · have c1 := ‹¬a < 0›
      have c2 := ‹¬a ≤ (d.length : Int)›
      go_ret
      exact ⟨by rw [hf, decide_eq_false c1, decide_eq_false c2]; simp, x1⟩
    · have c1 := ‹a < 0›
      go_ret
      exact ⟨by rw [hf, decide_eq_true c1]; simp, x1⟩
set_option maxHeartbeats 24000000 in
theorem r3_Check (r : Rec) (w : World) (hl : r.data.length ≤ 4611686018427387904) : Calls Tryz.prog 154 #[.agg #[str r.name, .int .i64 r.kind, .int .i64 r.ttl, str r.data]] w (RetV w (.int .i64 (checkR r))) := by
  go_enter Tryz.func154, Tryz.ntmps154
  repeat' ((fail_if_success (with_reducible refine o_s ?_)); go_step)
  refine wpl_box (vs := Rec.cells r) rfl rfl ?_
  intro p w1 x1 hp
  refine gset ?_
  have hp : Pts w1 p [str r.name, .int .i64 r.kind, .int .i64 r.ttl, str r.data] := hp
  repeat' (first | ((with_reducible refine o_s ?_); (first | (refine o_1 ?_; refine o_2 ?_) | (refine o_g ?_; first | refine o_u ?_ | refine o_k ?_ | refine o_n ?_ | refine o_v ?_ | ((first | refine o_G ?_ ?_ | refine o_N ?_ ?_) <;> intro hc)))) | ((fail_if_success (with_reducible refine o_s ?_)); go_step))
  refine wpl_callV (enters_of Tryz.func136 rfl rfl) rfl rfl (r1_Check r.name _) ?_; intro w2 x2; refine gset ?_
  have hp := hp.ext x2
  have x2 := x1.trans x2
  cases hlab : (labels r.name).isSome with
  | false =>
    simp only [Bool.false_eq_true, ↓reduceIte]
    repeat' (first | ((with_reducible refine o_s ?_); (first | (refine o_1 ?_; refine o_2 ?_) | (refine o_g ?_; first | refine o_u ?_ | refine o_k ?_ | refine o_n ?_ | refine o_v ?_ | ((first | refine o_G ?_ ?_ | refine o_N ?_ ?_) <;> intro hc)))) | ((fail_if_success (with_reducible refine o_s ?_)); go_step))
    go_ret
    refine ⟨?_, x2⟩
    have : checkR r = 1 := by unfold checkR; simp [hlab]
    rw [this]; rfl
  | true =>
    simp only [↓reduceIte]
    repeat' (first | ((with_reducible refine o_s ?_); (first | (refine o_1 ?_; refine o_2 ?_) | (refine o_g ?_; first | refine o_u ?_ | refine o_k ?_ | refine o_n ?_ | refine o_v ?_ | ((first | refine o_G ?_ ?_ | refine o_N ?_ ?_) <;> intro hc)))) | ((fail_if_success (with_reducible refine o_s ?_)); go_step))
    rotate_left
    · have : checkR r = 1 := by simp [checkR, hc]
      go_ret
      exact ⟨by rw [this]; rfl, x2⟩
    · have : checkR r = 1 := by simp [checkR, hc]
      go_ret
      exact ⟨by rw [this]; rfl, x2⟩
    · have : checkR r = 1 := by simp [checkR, hc]
      go_ret
      exact ⟨by rw [this]; rfl, x2⟩
    · have : checkR r = 1 := by simp [checkR, hc]
      go_ret
      exact ⟨by rw [this]; rfl, x2⟩
    · have : checkR r = 1 := by simp [checkR, hc]
      go_ret
      exact ⟨by rw [this]; rfl, x2⟩
    · have : checkR r = 1 := by simp [checkR, hc]
      go_ret
      exact ⟨by rw [this]; rfl, x2⟩
    · have : checkR r = 1 := by simp [checkR, hc]
      go_ret
      exact ⟨by rw [this]; rfl, x2⟩
    · have : checkR r = 1 := by simp [checkR, hc]
      go_ret
      exact ⟨by rw [this]; rfl, x2⟩
    · have q1 := ‹¬r.kind < 1›
      have q2 := ‹¬65535 < r.kind›
      have q3 := ‹¬r.kind = 41›
      have q4 := ‹¬r.kind = 251›
      have q5 := ‹¬r.kind = 252›
      have q6 := ‹¬r.kind = 255›
      have q7 := ‹¬r.ttl < 0›
      have q8 := ‹¬2147483647 < r.ttl›
      refine wpl_callV (enters_of Tryz.func185 rfl rfl) rfl rfl (r3_data r.kind r.data _ hl) ?_; intro w3 x3; refine gset ?_
      cases hf : (decide (r.data.length ≤ 4000) && fits r.kind r.data) with
      | true =>
        simp only [Bool.and_eq_true, decide_eq_true_eq] at hf
        have : checkR r = 0 := by simp [checkR, q1, q2, q3, q4, q5, q6, q7, q8, hf.2, hlab]; omega
        repeat' (first | ((with_reducible refine o_s ?_); (first | (refine o_1 ?_; refine o_2 ?_) | (refine o_g ?_; first | refine o_u ?_ | refine o_k ?_ | refine o_n ?_ | refine o_v ?_ | ((first | refine o_G ?_ ?_ | refine o_N ?_ ?_) <;> intro hc)))) | ((fail_if_success (with_reducible refine o_s ?_)); go_step))
        go_ret
        exact ⟨by rw [this]; rfl, x2.trans x3⟩
      | false =>
        have : checkR r = 1 := by
          simp only [Bool.and_eq_false_iff, decide_eq_false_iff_not] at hf
          rcases hf with hf | hf
          · simp [checkR, show 4000 < r.data.length by omega]
          · simp [checkR, hf]
        repeat' (first | ((with_reducible refine o_s ?_); (first | (refine o_1 ?_; refine o_2 ?_) | (refine o_g ?_; first | refine o_u ?_ | refine o_k ?_ | refine o_n ?_ | refine o_v ?_ | ((first | refine o_G ?_ ?_ | refine o_N ?_ ?_) <;> intro hc)))) | ((fail_if_success (with_reducible refine o_s ?_)); go_step))
        go_ret
        exact ⟨by rw [this]; rfl, x2.trans x3⟩

theorem run_eqRec {r q : Rec} {w : World} : (Op.equalIn 10000 75 (.agg #[str r.name, .int .i64 r.kind, .int .i64 r.ttl, str r.data]) (.agg #[str q.name, .int .i64 q.kind, .int .i64 q.ttl, str q.data])).run Tryz.prog w = .ok (decide (r = q)) w := by
  have hS : Tryz.prog.underlying 75 = some (.struct (Tryz.prog.fieldsOf 75)) := by kernel_rfl
  rw [show (10000 : Nat) = 9999 + 1 from rfl, run_equalIn_agg w 9999 75 _ _ hS (by kernel_rfl)]
  simp only [Program.fieldsOf, Tryz.underlying75]
  have u3 := Tryz.underlying3
  have u9 := Tryz.underlying9
  have u31 := Tryz.underlying22
  have a3 := Tryz.isAgg3
  have a9 := Tryz.isAgg9
  have a31 := Tryz.isAgg22
  have z3 := Tryz.sizeOf3
  have z9 := Tryz.sizeOf9
  have z31 := Tryz.sizeOf22
  unfold str
  go_simp
  obtain ⟨a1, a2, a3, a4⟩ := r
  obtain ⟨b1, b2, b3, b4⟩ := q
  simp only [Rec.mk.injEq]
  by_cases h1 : a1 = b1 <;> by_cases h2 : a2 = b2 <;> by_cases h3 : a3 = b3 <;> by_cases h4 : a4 = b4 <;> simp [h1, h2, h3, h4]
theorem Runs.neqRec {r q : Rec} {x y : Operand} {a : Act} {w : World} {d : Option Nat} {u ty : TypeId} {ps : String} {af : Array Edge} {g : Option (Nat × Bool)}
    (hx : a.eval x = .agg #[str r.name, .int .i64 r.kind, .int .i64 r.ttl, str r.data]) (hy : a.eval y = .agg #[str q.name, .int .i64 q.kind, .int .i64 q.ttl, str q.data]) :
    Runs Tryz.prog (Oper.mk d (.binOp .neq 75 x y u) ty ps af g) a w (.bool (!decide (r = q))) := by
  constructor
  have hg := run_eqGuard_agg (P := Tryz.prog) w .neq 75 x y #[str r.name, .int .i64 r.kind, .int .i64 r.ttl, str r.data] #[str q.name, .int .i64 q.kind, .int .i64 q.ttl, str q.data] (by kernel_rfl)
  simp only [execOp, hx, hy, Sem.run_bind, hg, Result.andThen_ok, run_neq_struct, run_eqRec, Sem.run_pure]
set_option maxHeartbeats 12000000 in
theorem r3_Same (u v : Value) (a b : List Rec) (w : World) (hu : Sl 4 w u (rcells a)) (hv : Sl 4 w v (rcells b)) : Calls Tryz.prog 42 #[u, v] w (RetV w (.bool (decide (a = b)))) := by
  have la := rcells_length a
  have lb := rcells_length b
  have hla := hu.le
  have hlb := hv.le
  by_cases hl : a.length = b.length
  · go_enter Tryz.func42, Tryz.ntmps42
    repeat' (first | ((with_reducible refine o_s ?_); (first | (refine o_1 ?_; refine o_2 ?_) | (refine o_g ?_; first | refine o_u ?_ | refine o_k ?_ | refine o_n ?_ | refine o_v ?_ | ((first | refine o_G ?_ ?_ | refine o_N ?_ ?_) <;> intro hc)))) | ((fail_if_success (with_reducible refine o_s ?_)); go_step))
    · have hbad := ‹(!decide (((rcells a).length : Int) = ((rcells b).length : Int))) = true›
      exfalso; simp at hbad; omega
    go_loopw [5] (fun i wr => ∃ k : Nat, k ≤ a.length ∧ i = .int .i64 k ∧ Ext w wr ∧ a.take k = b.take k) (fun i _ => a.length - (intOf i).toNat)
    case atStart => exact ⟨0, Nat.zero_le _, rfl, Ext.refl _, rfl⟩
    case round =>
      obtain ⟨k, hk, rfl, hx, hall⟩ := hrel
      by_cases hlt : k < a.length
      · have hlt2 : k < b.length := by omega
        have hpa := (hu.ext hx).elem (rcells_at hlt)
        have hpb := (hv.ext hx).elem (rcells_at hlt2)
        have hua := hu.ext hx
        have hvb := hv.ext hx
        repeat' (first | ((with_reducible refine o_s ?_); (first | (refine o_1 ?_; refine o_2 ?_) | (refine o_g ?_; first | refine o_u ?_ | refine o_k ?_ | refine o_n ?_ | refine o_v ?_ | ((first | refine o_G ?_ ?_ | refine o_N ?_ ?_) <;> intro hc)))) | ((fail_if_success (with_reducible refine o_s ?_)); go_step))
        refine wpq_region (by decide +kernel) (by decide +kernel) ?_
        repeat' (first | ((with_reducible refine q_s ?_); (first | (refine q_1 ?_; refine q_2 ?_) | (refine q_g ?_; first | refine q_u ?_ | refine q_k ?_ | refine q_v ?_))) | (with_reducible refine q_n ?_))
        refine wpq_run (v := .bool (!decide (a[k] = b[k]))) rfl (fun w' _ => Runs.neqRec rfl rfl) ?_
        refine gset ?_
        repeat' (first | ((with_reducible refine q_s ?_); (first | (refine q_1 ?_; refine q_2 ?_) | (refine q_g ?_; first | refine q_u ?_ | refine q_k ?_ | refine q_v ?_))) | (with_reducible refine q_n ?_))
        intro w3 x3
        repeat' (first | ((with_reducible refine o_s ?_); (first | (refine o_1 ?_; refine o_2 ?_) | (refine o_g ?_; first | refine o_u ?_ | refine o_k ?_ | refine o_n ?_ | refine o_v ?_ | ((first | refine o_G ?_ ?_ | refine o_N ?_ ?_) <;> intro hc)))) | ((fail_if_success (with_reducible refine o_s ?_)); go_step))
        · have hne := ‹(!decide (a[k] = b[k])) = true›
          have hab : a ≠ b := ne_of_at hlt hlt2 (by simpa using hne)
          go_ret
          exact ⟨by rw [decide_eq_false hab]; rfl, hx.trans x3⟩
        · have heq := ‹(!decide (a[k] = b[k])) = false›
          exact ⟨⟨k + 1, by omega, by go_num, hx.trans x3, take_succ_eq hall hlt hlt2 (by simpa using heq)⟩, by simp [intOf]; omega⟩
      · have : k = a.length := by omega
        subst this
        have hab : a = b := by rw [List.take_length, hl, List.take_length] at hall; exact hall
        repeat' (first | ((with_reducible refine o_s ?_); (first | (refine o_1 ?_; refine o_2 ?_) | (refine o_g ?_; first | refine o_u ?_ | refine o_k ?_ | refine o_n ?_ | refine o_v ?_ | ((first | refine o_G ?_ ?_ | refine o_N ?_ ?_) <;> intro hc)))) | ((fail_if_success (with_reducible refine o_s ?_)); go_step))
        go_ret
        exact ⟨by rw [decide_eq_true hab]; rfl, hx⟩
  · have hab : a ≠ b := fun h => hl (by rw [h])
    go_enter Tryz.func42, Tryz.ntmps42
    repeat' (first | ((with_reducible refine o_s ?_); (first | (refine o_1 ?_; refine o_2 ?_) | (refine o_g ?_; first | refine o_u ?_ | refine o_k ?_ | refine o_n ?_ | refine o_v ?_ | ((first | refine o_G ?_ ?_ | refine o_N ?_ ?_) <;> intro hc)))) | ((fail_if_success (with_reducible refine o_s ?_)); go_step))
    · go_ret
      exact ⟨by rw [decide_eq_false hab]; rfl, Ext.refl _⟩
    · have hbad := ‹(!decide (((rcells a).length : Int) = ((rcells b).length : Int))) = false›
      exfalso; simp at hbad; omega
def aheadS (a b : RSet) : Bool := decide (cmpN a.name b.name < 0) || (decide (cmpN a.name b.name = 0) && decide (a.kind < b.kind))
set_option maxHeartbeats 6000000 in
theorem r7_ahead (a b : RSet) (u v : Value) (w : World) : Calls Tryz.prog 174 #[.agg #[str a.name, .int .i64 a.kind, .int .i64 a.ttl, u], .agg #[str b.name, .int .i64 b.kind, .int .i64 b.ttl, v]] w (RetV w (.bool (aheadS a b))) := by
  go_enter Tryz.func174, Tryz.ntmps174
  repeat' ((fail_if_success (with_reducible refine o_s ?_)); go_step)
  refine wpl_box (vs := [str a.name, .int .i64 a.kind, .int .i64 a.ttl, u]) rfl rfl ?_
  intro p w1 x1 hp
  refine gset ?_
  refine wpl_box (vs := [str b.name, .int .i64 b.kind, .int .i64 b.ttl, v]) rfl rfl ?_
  intro q w2 x2 hq
  refine gset ?_
  have hp := hp.ext x2
  repeat' (first | ((with_reducible refine o_s ?_); (first | (refine o_1 ?_; refine o_2 ?_) | (refine o_g ?_; first | refine o_u ?_ | refine o_k ?_ | refine o_n ?_ | refine o_v ?_ | ((first | refine o_G ?_ ?_ | refine o_N ?_ ?_) <;> intro hc)))) | ((fail_if_success (with_reducible refine o_s ?_)); go_step))
  refine wpl_callV (enters_of Tryz.func194 rfl rfl) rfl rfl (r1_Compare a.name b.name _) ?_; intro w3 x3; refine gset ?_
  have hp := hp.ext x3
  have hq := hq.ext x3
  have x := (x1.trans x2).trans x3
  repeat' (first | ((with_reducible refine o_s ?_); (first | (refine o_1 ?_; refine o_2 ?_) | (refine o_g ?_; first | refine o_u ?_ | refine o_k ?_ | refine o_n ?_ | refine o_v ?_ | ((first | refine o_G ?_ ?_ | refine o_N ?_ ?_) <;> intro hc)))) | ((fail_if_success (with_reducible refine o_s ?_)); go_step))
  · have c1 := ‹¬cmpN a.name b.name < 0›
    have c2 := ‹cmpN a.name b.name = 0›
    go_ret
    exact ⟨by simp [aheadS, c2], x⟩
  · have c1 := ‹¬cmpN a.name b.name < 0›
    have c2 := ‹¬cmpN a.name b.name = 0›
    go_ret
    exact ⟨by rw [aheadS, decide_eq_false c1, decide_eq_false c2]; rfl, x⟩
  · have c1 := ‹cmpN a.name b.name < 0›
    go_ret
    exact ⟨by rw [aheadS, decide_eq_true c1]; rfl, x⟩
set_option maxHeartbeats 6000000 in
theorem r7_May (s : RSet) (v : Value) (w : World) (hv : Sl 1 w v (tcells s.data)) (hd : ∀ d ∈ s.data, d.length ≤ 4611686018427387904) : Calls Tryz.prog 173 #[.agg #[str s.name, .int .i64 s.kind, .int .i64 s.ttl, v]] w (RetV w (.bool (mayS s))) := by
  have hlen := tcells_length s.data
  have hle := hv.le
  go_enter Tryz.func173, Tryz.ntmps173
  repeat' ((fail_if_success (with_reducible refine o_s ?_)); go_step)
  refine wpl_box (vs := [str s.name, .int .i64 s.kind, .int .i64 s.ttl, v]) rfl rfl ?_
  intro p w1 x1 hp
  refine gset ?_
  have hv1 := hv.ext x1
  repeat' (first | ((with_reducible refine o_s ?_); (first | (refine o_1 ?_; refine o_2 ?_) | (refine o_g ?_; first | refine o_u ?_ | refine o_k ?_ | refine o_n ?_ | refine o_v ?_ | ((first | refine o_G ?_ ?_ | refine o_N ?_ ?_) <;> intro hc)))) | ((fail_if_success (with_reducible refine o_s ?_)); go_step))
  cases hb : decide (fold s.name = s.name) with
  | false =>
    have hno : mayS s = false := by simp [mayS, hb]
    refine wpq_region (by decide +kernel) (by decide +kernel) ?_
    repeat' (first | ((with_reducible refine q_s ?_); (first | (refine q_1 ?_; refine q_2 ?_) | (refine q_g ?_; first | refine q_u ?_ | refine q_k ?_ | refine q_v ?_))) | (with_reducible refine q_n ?_))
    refine wpq_call (enters_of Tryz.func44 rfl rfl) rfl rfl (fun w' _ => r1_Fold s.name w') ?_
    refine gset ?_
    repeat' (first | ((with_reducible refine q_s ?_); (first | (refine q_1 ?_; refine q_2 ?_) | (refine q_g ?_; first | refine q_u ?_ | refine q_k ?_ | refine q_v ?_))) | (with_reducible refine q_n ?_))
    simp only [hb, Bool.not_true, Bool.not_false]
    repeat' (first | ((with_reducible refine q_s ?_); (first | (refine q_1 ?_; refine q_2 ?_) | (refine q_g ?_; first | refine q_u ?_ | refine q_k ?_ | refine q_v ?_))) | (with_reducible refine q_n ?_))
    intro w2 x2
    repeat' (first | ((with_reducible refine o_s ?_); (first | (refine o_1 ?_; refine o_2 ?_) | (refine o_g ?_; first | refine o_u ?_ | refine o_k ?_ | refine o_n ?_ | refine o_v ?_ | ((first | refine o_G ?_ ?_ | refine o_N ?_ ?_) <;> intro hc)))) | ((fail_if_success (with_reducible refine o_s ?_)); go_step))
    go_ret
    exact ⟨by rw [hno]; rfl, x1.trans x2⟩
  | true =>
    have hfo : fold s.name = s.name := by simpa using hb
    refine wpq_region (by decide +kernel) (by decide +kernel) ?_
    repeat' (first | ((with_reducible refine q_s ?_); (first | (refine q_1 ?_; refine q_2 ?_) | (refine q_g ?_; first | refine q_u ?_ | refine q_k ?_ | refine q_v ?_))) | (with_reducible refine q_n ?_))
    refine wpq_call (enters_of Tryz.func44 rfl rfl) rfl rfl (fun w' _ => r1_Fold s.name w') ?_
    refine gset ?_
    repeat' (first | ((with_reducible refine q_s ?_); (first | (refine q_1 ?_; refine q_2 ?_) | (refine q_g ?_; first | refine q_u ?_ | refine q_k ?_ | refine q_v ?_))) | (with_reducible refine q_n ?_))
    simp only [hb, Bool.not_true, Bool.not_false]
    repeat' (first | ((with_reducible refine q_s ?_); (first | (refine q_1 ?_; refine q_2 ?_) | (refine q_g ?_; first | refine q_u ?_ | refine q_k ?_ | refine q_v ?_))) | (with_reducible refine q_n ?_))
    cases hb1 : decide (((tcells s.data).length : Int) < 1) with
    | true =>
      have hno : mayS s = false := by simp at hb1; simp [mayS]; intro _ h; omega
      repeat' (first | ((with_reducible refine q_s ?_); (first | (refine q_1 ?_; refine q_2 ?_) | (refine q_g ?_; first | refine q_u ?_ | refine q_k ?_ | refine q_v ?_))) | (with_reducible refine q_n ?_))
      intro w2 x2
      repeat' (first | ((with_reducible refine o_s ?_); (first | (refine o_1 ?_; refine o_2 ?_) | (refine o_g ?_; first | refine o_u ?_ | refine o_k ?_ | refine o_n ?_ | refine o_v ?_ | ((first | refine o_G ?_ ?_ | refine o_N ?_ ?_) <;> intro hc)))) | ((fail_if_success (with_reducible refine o_s ?_)); go_step))
      go_ret
      exact ⟨by rw [hno]; rfl, x1.trans x2⟩
    | false =>
      repeat' (first | ((with_reducible refine q_s ?_); (first | (refine q_1 ?_; refine q_2 ?_) | (refine q_g ?_; first | refine q_u ?_ | refine q_k ?_ | refine q_v ?_))) | (with_reducible refine q_n ?_))
      cases hb2 : decide ((20 : Int) < ((tcells s.data).length : Int)) with
      | true =>
        have hno : mayS s = false := by simp at hb2; simp [mayS]; intro _ _ h; omega
        repeat' (first | ((with_reducible refine q_s ?_); (first | (refine q_1 ?_; refine q_2 ?_) | (refine q_g ?_; first | refine q_u ?_ | refine q_k ?_ | refine q_v ?_))) | (with_reducible refine q_n ?_))
        intro w2 x2
        repeat' (first | ((with_reducible refine o_s ?_); (first | (refine o_1 ?_; refine o_2 ?_) | (refine o_g ?_; first | refine o_u ?_ | refine o_k ?_ | refine o_n ?_ | refine o_v ?_ | ((first | refine o_G ?_ ?_ | refine o_N ?_ ?_) <;> intro hc)))) | ((fail_if_success (with_reducible refine o_s ?_)); go_step))
        go_ret
        exact ⟨by rw [hno]; rfl, x1.trans x2⟩
      | false =>
        repeat' (first | ((with_reducible refine q_s ?_); (first | (refine q_1 ?_; refine q_2 ?_) | (refine q_g ?_; first | refine q_u ?_ | refine q_k ?_ | refine q_v ?_))) | (with_reducible refine q_n ?_))
        intro w2 x2
        have hl1 : 1 ≤ s.data.length := by simp at hb1; omega
        have hl2 : s.data.length ≤ 20 := by simp at hb2; omega
        have hp := hp.ext x2
        have hv2 := hv1.ext x2
        have x12 := x1.trans x2
        clear x1 x2 hv1
        repeat' (first | ((with_reducible refine o_s ?_); (first | (refine o_1 ?_; refine o_2 ?_) | (refine o_g ?_; first | refine o_u ?_ | refine o_k ?_ | refine o_n ?_ | refine o_v ?_ | ((first | refine o_G ?_ ?_ | refine o_N ?_ ?_) <;> intro hc)))) | ((fail_if_success (with_reducible refine o_s ?_)); go_step))
        go_loopw [3] (fun i wr => ∃ k : Nat, k ≤ s.data.length ∧ i = .int .i64 k ∧ Ext w2 wr ∧ ∀ j, j < k → badAt s j = false) (fun i _ => s.data.length - (intOf i).toNat)
        case atStart => exact ⟨0, Nat.zero_le _, rfl, Ext.refl _, by omega⟩
        case round =>
          obtain ⟨k, hk, rfl, hx, hall⟩ := hrel
          have hp := hp.ext hx
          have hv3 := hv2.ext hx
          by_cases hlt : k < s.data.length
          · have hq := hv3.elem (tcells_at hlt)
            have hdk := hd _ (List.getElem_mem hlt)
            have hbad : badAt s k = (decide (checkR ⟨s.name, s.kind, s.ttl, s.data[k]⟩ ≠ 0) || (decide (0 < k) && !Op.bytesLess (s.data.getD (k - 1) []) s.data[k])) := by
              rw [badAt, show s.data.getD k [] = s.data[k] by simp [hlt]]
            have hck : ∀ w', Calls Tryz.prog 154 #[.agg #[str s.name, .int .i64 s.kind, .int .i64 s.ttl, str s.data[k]]] w' (RetV w' (.int .i64 (checkR ⟨s.name, s.kind, s.ttl, s.data[k]⟩))) := fun w' => r3_Check ⟨s.name, s.kind, s.ttl, s.data[k]⟩ w' hdk
            repeat' (first | ((with_reducible refine o_s ?_); (first | (refine o_1 ?_; refine o_2 ?_) | (refine o_g ?_; first | refine o_u ?_ | refine o_k ?_ | refine o_n ?_ | refine o_v ?_ | ((first | refine o_G ?_ ?_ | refine o_N ?_ ?_) <;> intro hc)))) | ((fail_if_success (with_reducible refine o_s ?_)); go_step))
            refine wpq_region (by decide +kernel) (by decide +kernel) ?_
            repeat' (first | ((with_reducible refine q_s ?_); (first | (refine q_1 ?_; refine q_2 ?_) | (refine q_g ?_; first | refine q_u ?_ | refine q_k ?_ | refine q_v ?_))) | (with_reducible refine q_n ?_))
            refine wpq_run (v := .agg #[str s.name, .int .i64 s.kind, .int .i64 s.ttl, str s.data[k]]) rfl (fun w' _ => Runs.build rfl (by kernel_rfl)) ?_
            refine gset ?_
            repeat' (first | ((with_reducible refine q_s ?_); (first | (refine q_1 ?_; refine q_2 ?_) | (refine q_g ?_; first | refine q_u ?_ | refine q_k ?_ | refine q_v ?_))) | (with_reducible refine q_n ?_))
            refine wpq_call (enters_of Tryz.func154 rfl rfl) rfl rfl (fun w' _ => hck w') ?_
            refine gset ?_
            repeat' (first | ((with_reducible refine q_s ?_); (first | (refine q_1 ?_; refine q_2 ?_) | (refine q_g ?_; first | refine q_u ?_ | refine q_k ?_ | refine q_v ?_))) | (with_reducible refine q_n ?_))
            cases hc : decide (checkR ⟨s.name, s.kind, s.ttl, s.data[k]⟩ = 0) with
            | false =>
              have hno : mayS s = false := mayS_bad hlt (by rw [hbad]; simp at hc; simp [hc])
              simp only [Bool.not_false]
              repeat' (first | ((with_reducible refine q_s ?_); (first | (refine q_1 ?_; refine q_2 ?_) | (refine q_g ?_; first | refine q_u ?_ | refine q_k ?_ | refine q_v ?_))) | (with_reducible refine q_n ?_))
              intro w3 x3
              repeat' (first | ((with_reducible refine o_s ?_); (first | (refine o_1 ?_; refine o_2 ?_) | (refine o_g ?_; first | refine o_u ?_ | refine o_k ?_ | refine o_n ?_ | refine o_v ?_ | ((first | refine o_G ?_ ?_ | refine o_N ?_ ?_) <;> intro hc)))) | ((fail_if_success (with_reducible refine o_s ?_)); go_step))
              go_ret
              exact ⟨by rw [hno]; rfl, x12.trans (hx.trans x3)⟩
            | true =>
              have hc0 : checkR ⟨s.name, s.kind, s.ttl, s.data[k]⟩ = 0 := by simpa using hc
              simp only [Bool.not_true]
              repeat' (first | ((with_reducible refine q_s ?_); (first | (refine q_1 ?_; refine q_2 ?_) | (refine q_g ?_; first | refine q_u ?_ | refine q_k ?_ | refine q_v ?_))) | (with_reducible refine q_n ?_))
              by_cases hk0 : k = 0
              · have hb0 : badAt s k = false := by rw [hbad, hc0]; simp [hk0]
                rw [show decide ((0 : Int) < (k : Int)) = false by simp [hk0]]
                repeat' (first | ((with_reducible refine q_s ?_); (first | (refine q_1 ?_; refine q_2 ?_) | (refine q_g ?_; first | refine q_u ?_ | refine q_k ?_ | refine q_v ?_))) | (with_reducible refine q_n ?_))
                intro w3 x3
                repeat' (first | ((with_reducible refine o_s ?_); (first | (refine o_1 ?_; refine o_2 ?_) | (refine o_g ?_; first | refine o_u ?_ | refine o_k ?_ | refine o_n ?_ | refine o_v ?_ | ((first | refine o_G ?_ ?_ | refine o_N ?_ ?_) <;> intro hc)))) | ((fail_if_success (with_reducible refine o_s ?_)); go_step))
                exact ⟨⟨k + 1, by omega, by go_num, hx.trans x3, fun j hj => by
                  rcases Nat.lt_succ_iff_lt_or_eq.1 hj with h | rfl
                  · exact hall j h
                  · exact hb0⟩, by simp [intOf]; omega⟩
              · rw [show decide ((0 : Int) < (k : Int)) = true by simp; omega]
                have hq2 : Pts wr (elemPtr v (((k : Int) - 1).toNat * 1)) [str (s.data.getD (k - 1) [])] := by
                  have := hv3.elem (i := k - 1) (e := [str (s.data.getD (k - 1) [])]) (by rw [tcells_at (show k - 1 < s.data.length by omega)]; simp [show k - 1 < s.data.length by omega])
                  rwa [show ((k : Int) - 1).toNat = k - 1 by omega]
                repeat' (first | ((with_reducible refine q_s ?_); (first | (refine q_1 ?_; refine q_2 ?_) | (refine q_g ?_; first | refine q_u ?_ | refine q_k ?_ | refine q_v ?_))) | (with_reducible refine q_n ?_))
                have hb0 : badAt s k = !Op.bytesLess (s.data.getD (k - 1) []) s.data[k] := by rw [hbad, hc0]; simp; omega
                intro w3 x3
                cases hbl : Op.bytesLess (s.data.getD (k - 1) []) s.data[k] with
                | false =>
                  have hno : mayS s = false := mayS_bad hlt (by rw [hb0, hbl]; rfl)
                  repeat' (first | ((with_reducible refine o_s ?_); (first | (refine o_1 ?_; refine o_2 ?_) | (refine o_g ?_; first | refine o_u ?_ | refine o_k ?_ | refine o_n ?_ | refine o_v ?_ | ((first | refine o_G ?_ ?_ | refine o_N ?_ ?_) <;> intro hc)))) | ((fail_if_success (with_reducible refine o_s ?_)); go_step))
                  go_ret
                  exact ⟨by rw [hno]; rfl, x12.trans (hx.trans x3)⟩
                | true =>
                  have hb1 : badAt s k = false := by rw [hb0, hbl]; rfl
                  repeat' (first | ((with_reducible refine o_s ?_); (first | (refine o_1 ?_; refine o_2 ?_) | (refine o_g ?_; first | refine o_u ?_ | refine o_k ?_ | refine o_n ?_ | refine o_v ?_ | ((first | refine o_G ?_ ?_ | refine o_N ?_ ?_) <;> intro hc)))) | ((fail_if_success (with_reducible refine o_s ?_)); go_step))
                  exact ⟨⟨k + 1, by omega, rfl, hx.trans x3, fun j hj => by
                    rcases Nat.lt_succ_iff_lt_or_eq.1 hj with h | rfl
                    · exact hall j h
                    · exact hb1⟩, by simp [intOf]; omega⟩
          · have : k = s.data.length := by omega
            subst this
            have hyes : mayS s = true := by
              simp only [mayS, hb, decide_eq_true hl1, decide_eq_true hl2, Bool.true_and, List.all_eq_true, List.mem_range, Bool.not_eq_true']
              exact hall
            repeat' (first | ((with_reducible refine o_s ?_); (first | (refine o_1 ?_; refine o_2 ?_) | (refine o_g ?_; first | refine o_u ?_ | refine o_k ?_ | refine o_n ?_ | refine o_v ?_ | ((first | refine o_G ?_ ?_ | refine o_N ?_ ?_) <;> intro hc)))) | ((fail_if_success (with_reducible refine o_s ?_)); go_step))
            go_ret
            exact ⟨by rw [hyes]; rfl, x12.trans hx⟩
theorem ahead_cmp (a b : RSet) : aheadS a b = decide (cmpSet a.name b.name a.kind b.kind < 0) := by
  unfold aheadS cmpSet cmpI
  by_cases h1 : cmpN a.name b.name < 0
  · rw [if_pos (by omega)]; simp [h1]
  · by_cases h2 : cmpN a.name b.name = 0
    · simp [h2]
      by_cases h3 : a.kind < b.kind
      · simp [h3]
      · simp [h3]; split <;> omega
    · rw [if_pos h2]; simp [h1, h2]
set_option maxHeartbeats 6000000 in
theorem r7_Check (v : Value) (l : List RSet) (w : World) (hv : SetsAt w v l) (hd : ∀ s ∈ l, ∀ d ∈ s.data, d.length ≤ 4611686018427387904) : Calls Tryz.prog 137 #[v] w (RetV w (.int .i64 (checkS l))) := by
  obtain ⟨cv, hv1, hvl⟩ := hv.sl
  have hle := hv1.le
  go_enter Tryz.func137, Tryz.ntmps137
  repeat' (first | ((with_reducible refine o_s ?_); (first | (refine o_1 ?_; refine o_2 ?_) | (refine o_g ?_; first | refine o_u ?_ | refine o_k ?_ | refine o_n ?_ | refine o_v ?_ | ((first | refine o_G ?_ ?_ | refine o_N ?_ ?_) <;> intro hc)))) | ((fail_if_success (with_reducible refine o_s ?_)); go_step))
  · go_ret
    refine ⟨?_, Ext.refl _⟩
    rw [checkS, if_pos (by omega)]
    rfl
  go_loopw [3] (fun i wr => ∃ k : Nat, k ≤ l.length ∧ i = .int .i64 k ∧ Ext w wr ∧ ∀ j, j < k → badSet l j = false) (fun i _ => l.length - (intOf i).toNat)
  case atStart => exact ⟨0, Nat.zero_le _, rfl, Ext.refl _, by omega⟩
  case round =>
    obtain ⟨k, hk, rfl, hx, hall⟩ := hrel
    have hv2 := hv1.ext hx
    by_cases hlt : k < l.length
    · obtain ⟨x, h1, h1d⟩ := (hv.ext hx).elem (List.getElem?_eq_getElem hlt)
      have hdk := hd _ (List.getElem_mem hlt)
      have hbad : badSet l k = (!mayS l[k] || (decide (0 < k) && !aheadS (l.getD (k - 1) default) l[k])) := by
        rw [badSet, List.getElem?_eq_getElem hlt, ahead_cmp]
        simp only []
        congr 2
        by_cases h : cmpSet (l.getD (k - 1) default).name l[k].name (l.getD (k - 1) default).kind l[k].kind < 0
        · rw [decide_eq_true h, decide_eq_false (by omega)]; rfl
        · rw [decide_eq_false h, decide_eq_true (by omega)]; rfl
      have hck : ∀ w', Ext wr w' → Calls Tryz.prog 173 #[.agg #[str l[k].name, .int .i64 l[k].kind, .int .i64 l[k].ttl, x]] w' (RetV w' (.bool (mayS l[k]))) := fun w' x' => r7_May l[k] x w' (h1d.ext x') hdk
      repeat' (first | ((with_reducible refine o_s ?_); (first | (refine o_1 ?_; refine o_2 ?_) | (refine o_g ?_; first | refine o_u ?_ | refine o_k ?_ | refine o_n ?_ | refine o_v ?_ | ((first | refine o_G ?_ ?_ | refine o_N ?_ ?_) <;> intro hc)))) | ((fail_if_success (with_reducible refine o_s ?_)); go_step))
      refine wpq_region (by decide +kernel) (by decide +kernel) ?_
      repeat' (first | ((with_reducible refine q_s ?_); (first | (refine q_1 ?_; refine q_2 ?_) | (refine q_g ?_; first | refine q_u ?_ | refine q_k ?_ | refine q_v ?_))) | (with_reducible refine q_n ?_))
      refine wpq_call (enters_of Tryz.func173 rfl rfl) rfl rfl (fun w' x' => hck w' x') ?_
      refine gset ?_
      repeat' (first | ((with_reducible refine q_s ?_); (first | (refine q_1 ?_; refine q_2 ?_) | (refine q_g ?_; first | refine q_u ?_ | refine q_k ?_ | refine q_v ?_))) | (with_reducible refine q_n ?_))
      cases hm : mayS l[k] with
      | false =>
        have hno : checkS l = 1 := checkS_bad hlt (by rw [hbad, hm]; rfl)
        simp only [Bool.not_false]
        repeat' (first | ((with_reducible refine q_s ?_); (first | (refine q_1 ?_; refine q_2 ?_) | (refine q_g ?_; first | refine q_u ?_ | refine q_k ?_ | refine q_v ?_))) | (with_reducible refine q_n ?_))
        intro w3 x3
        repeat' (first | ((with_reducible refine o_s ?_); (first | (refine o_1 ?_; refine o_2 ?_) | (refine o_g ?_; first | refine o_u ?_ | refine o_k ?_ | refine o_n ?_ | refine o_v ?_ | ((first | refine o_G ?_ ?_ | refine o_N ?_ ?_) <;> intro hc)))) | ((fail_if_success (with_reducible refine o_s ?_)); go_step))
        go_ret
        exact ⟨by rw [hno]; rfl, hx.trans x3⟩
      | true =>
        simp only [Bool.not_true]
        repeat' (first | ((with_reducible refine q_s ?_); (first | (refine q_1 ?_; refine q_2 ?_) | (refine q_g ?_; first | refine q_u ?_ | refine q_k ?_ | refine q_v ?_))) | (with_reducible refine q_n ?_))
        by_cases hk0 : k = 0
        · have hb0 : badSet l k = false := by rw [hbad, hm]; simp [hk0]
          rw [show decide ((0 : Int) < (k : Int)) = false by simp [hk0]]
          repeat' (first | ((with_reducible refine q_s ?_); (first | (refine q_1 ?_; refine q_2 ?_) | (refine q_g ?_; first | refine q_u ?_ | refine q_k ?_ | refine q_v ?_))) | (with_reducible refine q_n ?_))
          intro w3 x3
          repeat' (first | ((with_reducible refine o_s ?_); (first | (refine o_1 ?_; refine o_2 ?_) | (refine o_g ?_; first | refine o_u ?_ | refine o_k ?_ | refine o_n ?_ | refine o_v ?_ | ((first | refine o_G ?_ ?_ | refine o_N ?_ ?_) <;> intro hc)))) | ((fail_if_success (with_reducible refine o_s ?_)); go_step))
          exact ⟨⟨k + 1, by omega, by go_num, hx.trans x3, fun j hj => by
            rcases Nat.lt_succ_iff_lt_or_eq.1 hj with h | rfl
            · exact hall j h
            · exact hb0⟩, by simp [intOf]; omega⟩
        · rw [show decide ((0 : Int) < (k : Int)) = true by simp; omega]
          have hlp : k - 1 < l.length := by omega
          obtain ⟨y, h2, h2d⟩ := (hv.ext hx).elem (List.getElem?_eq_getElem hlp)
          have h2 : Pts wr (elemPtr v (((k : Int) - 1).toNat * 4)) [str l[k - 1].name, .int .i64 l[k - 1].kind, .int .i64 l[k - 1].ttl, y] := by
            rwa [show ((k : Int) - 1).toNat = k - 1 by omega]
          have hpr : l.getD (k - 1) default = l[k - 1] := by simp [hlp]
          have hah : ∀ w', Calls Tryz.prog 174 #[.agg #[str l[k - 1].name, .int .i64 l[k - 1].kind, .int .i64 l[k - 1].ttl, y], .agg #[str l[k].name, .int .i64 l[k].kind, .int .i64 l[k].ttl, x]] w' (RetV w' (.bool (aheadS l[k - 1] l[k]))) := fun w' => r7_ahead l[k - 1] l[k] y x w'
          repeat' (first | ((with_reducible refine q_s ?_); (first | (refine q_1 ?_; refine q_2 ?_) | (refine q_g ?_; first | refine q_u ?_ | refine q_k ?_ | refine q_v ?_))) | (with_reducible refine q_n ?_))
          refine wpq_call (enters_of Tryz.func174 rfl rfl) rfl rfl (fun w' x' => hah w') ?_
          refine gset ?_
          repeat' (first | ((with_reducible refine q_s ?_); (first | (refine q_1 ?_; refine q_2 ?_) | (refine q_g ?_; first | refine q_u ?_ | refine q_k ?_ | refine q_v ?_))) | (with_reducible refine q_n ?_))
          intro w3 x3
          cases ha : aheadS l[k - 1] l[k] with
          | false =>
            have hno : checkS l = 1 := checkS_bad hlt (by rw [hbad, hm, hpr, ha]; simp; omega)
            repeat' (first | ((with_reducible refine o_s ?_); (first | (refine o_1 ?_; refine o_2 ?_) | (refine o_g ?_; first | refine o_u ?_ | refine o_k ?_ | refine o_n ?_ | refine o_v ?_ | ((first | refine o_G ?_ ?_ | refine o_N ?_ ?_) <;> intro hc)))) | ((fail_if_success (with_reducible refine o_s ?_)); go_step))
            go_ret
            exact ⟨by rw [hno]; rfl, hx.trans x3⟩
          | true =>
            have hb0 : badSet l k = false := by rw [hbad, hm, hpr, ha]; simp
            repeat' (first | ((with_reducible refine o_s ?_); (first | (refine o_1 ?_; refine o_2 ?_) | (refine o_g ?_; first | refine o_u ?_ | refine o_k ?_ | refine o_n ?_ | refine o_v ?_ | ((first | refine o_G ?_ ?_ | refine o_N ?_ ?_) <;> intro hc)))) | ((fail_if_success (with_reducible refine o_s ?_)); go_step))
            exact ⟨⟨k + 1, by omega, by go_num, hx.trans x3, fun j hj => by
              rcases Nat.lt_succ_iff_lt_or_eq.1 hj with h | rfl
              · exact hall j h
              · exact hb0⟩, by simp [intOf]; omega⟩
    · have : k = l.length := by omega
      subst this
      have hyes : checkS l = 0 := by
        rw [checkS, if_neg (by omega), if_pos]
        simp only [List.all_eq_true, List.mem_range, Bool.not_eq_true']
        exact hall
      repeat' (first | ((with_reducible refine o_s ?_); (first | (refine o_1 ?_; refine o_2 ?_) | (refine o_g ?_; first | refine o_u ?_ | refine o_k ?_ | refine o_n ?_ | refine o_v ?_ | ((first | refine o_G ?_ ?_ | refine o_N ?_ ?_) <;> intro hc)))) | ((fail_if_success (with_reducible refine o_s ?_)); go_step))
      go_ret
      exact ⟨by rw [hyes]; rfl, hx⟩

theorem Own.nilE {B k e : Nat} {w : World} : Own B k e w (.slice none 0 0) [] := Own.nil _ _ _ _
set_option maxHeartbeats 6000000 in
theorem r7_Copy (s : RSet) (v : Value) (w : World) (hv : Sl 1 w v (tcells s.data)) (hb : s.data.length ≤ 1000000) : Calls Tryz.prog 97 #[.agg #[str s.name, .int .i64 s.kind, .int .i64 s.ttl, v]] w (Ret w fun r w' => ∃ x, r = .agg #[str s.name, .int .i64 s.kind, .int .i64 s.ttl, x] ∧ Own w.heap.size 1 9 w' x (tcells s.data)) := by
  go_enter Tryz.func97, Tryz.ntmps97
  repeat' ((fail_if_success (with_reducible refine o_s ?_)); go_step)
  refine wpl_box (vs := [str s.name, .int .i64 s.kind, .int .i64 s.ttl, v]) rfl rfl ?_
  intro p w1 x1 hp
  refine gset ?_
  refine wpl_allocB (z := zset) rfl (by decide +kernel) ?_
  intro w2 x2 s2 h2
  refine gset ?_
  have hp := hp.ext x2
  repeat' (first | ((with_reducible refine o_s ?_); (first | (refine o_1 ?_; refine o_2 ?_) | (refine o_g ?_; first | refine o_u ?_ | refine o_k ?_ | refine o_n ?_ | refine o_v ?_ | ((first | refine o_G ?_ ?_ | refine o_N ?_ ?_) <;> intro hc)))) | ((fail_if_success (with_reducible refine o_s ?_)); go_step))
  refine wpl_allocB (z := zset) rfl (by decide +kernel) ?_
  intro w3 x3 s3 h3
  refine gset ?_
  have h2 := x3.at h2
  refine wpl_storeB (v := .agg #[str s.name, .int .i64 s.kind, .int .i64 s.ttl, v]) rfl rfl rfl h3 (show sizeTy Tryz.prog 55 4 = true by decide +kernel) rfl (all4 rfl rfl rfl hv.one) ?_
  intro w4 p4
  have x04 : Ext w w4 := ((x1.trans x2).trans x3).move p4.mv (by have := x1.size; rintro k ⟨⟩; omega)
  have h2 := p4.at h2 (by omega)
  have x24 : Ext w2 w4 := x3.move p4.mv (by rintro k ⟨⟩; omega)
  have hp4 := hp.ext x24
  have h4 : w4.heap[w2.heap.size]? = some (.cells [str s.name, .int .i64 s.kind, .int .i64 s.ttl, v].toArray 55 (0, 0)) := p4.this
  have hz4 := p4.size
  clear p4 h3 x3 hp
  repeat' (first | ((with_reducible refine o_s ?_); (first | (refine o_1 ?_; refine o_2 ?_) | (refine o_g ?_; first | refine o_u ?_ | refine o_k ?_ | refine o_n ?_ | refine o_v ?_ | ((first | refine o_G ?_ ?_ | refine o_N ?_ ?_) <;> intro hc)))) | ((fail_if_success (with_reducible refine o_s ?_)); go_step))
  have s1 := x1.size
  refine wpl_appendO (v0 := .slice none 0 0) (B := w4.heap.size) (e := 9) rfl Own.nilE rfl (hv.ext x04) (by simp [tcells, str, Value.oneCell']) (Nat.le_refl _) (by rw [tcells_length]; simpa using hb) ?_
  intro x w5 o5 m5 k5
  have x45 : Ext w4 w5 := ⟨m5.os, m5.tape, m5.output, m5.size, fun k hk => m5.block k hk (by simp [Value.ownBlock]), m5.drawn⟩
  refine gset ?_
  have h2 := x45.at h2
  have h4 := x45.at h4
  have hp4 := hp4.ext x45
  have hp5 := pts_block h4
  repeat' (first | ((with_reducible refine o_s ?_); (first | (refine o_1 ?_; refine o_2 ?_) | (refine o_g ?_; first | refine o_u ?_ | refine o_k ?_ | refine o_n ?_ | refine o_v ?_ | ((first | refine o_G ?_ ?_ | refine o_N ?_ ?_) <;> intro hc)))) | ((fail_if_success (with_reducible refine o_s ?_)); go_step))
  have o5 : Own w4.heap.size 1 9 w5 x (tcells s.data) := by simpa using o5
  refine wpl_storeF (cs := [str s.name, .int .i64 s.kind, .int .i64 s.ttl, v]) h4 rfl rfl rfl (by simp) (by decide +kernel) o5.one ?_
  intro w6 p6
  have x46 : Ext w w6 := (x04.trans x45).move p6.mv (by have := x2.size; rintro k ⟨⟩; omega)
  have h2 := p6.at h2 (by omega)
  have o6 : Own w4.heap.size 1 9 w6 x (tcells s.data) := o5.put p6 (by omega)
  have hp6 := pts_block (cs := [str s.name, .int .i64 s.kind, .int .i64 s.ttl, x]) p6.this
  clear p6 h4 hp5 hp4
  repeat' (first | ((with_reducible refine o_s ?_); (first | (refine o_1 ?_; refine o_2 ?_) | (refine o_g ?_; first | refine o_u ?_ | refine o_k ?_ | refine o_n ?_ | refine o_v ?_ | ((first | refine o_G ?_ ?_ | refine o_N ?_ ?_) <;> intro hc)))) | ((fail_if_success (with_reducible refine o_s ?_)); go_step))
  refine wpl_storeB (v := .agg #[str s.name, .int .i64 s.kind, .int .i64 s.ttl, x]) rfl rfl rfl h2 (show sizeTy Tryz.prog 55 4 = true by decide +kernel) rfl (all4 rfl rfl rfl o6.sl.one) ?_
  intro w7 p7
  have x7 : Ext w w7 := x46.move p7.mv (by rintro k ⟨⟩; omega)
  have o7 : Own w4.heap.size 1 9 w7 x (tcells s.data) := o6.put p7 (by omega)
  repeat' (first | ((with_reducible refine o_s ?_); (first | (refine o_1 ?_; refine o_2 ?_) | (refine o_g ?_; first | refine o_u ?_ | refine o_k ?_ | refine o_n ?_ | refine o_v ?_ | ((first | refine o_G ?_ ?_ | refine o_N ?_ ?_) <;> intro hc)))) | ((fail_if_success (with_reducible refine o_s ?_)); go_step))
  refine bodyPost_ret (results_cell1 (cs := [str s.name, .int .i64 s.kind, .int .i64 s.ttl, x]) rfl rfl p7.this (show aggTy Tryz.prog 55 4 = true by decide +kernel)) rfl ⟨_, rfl, x7, x, rfl, o7.weaken x04.size⟩
end Go.Proofs.X
